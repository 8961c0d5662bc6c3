/- What the proof of TermAnew needs, part 5: the walks of the program's functions and the plain laws about them. -/
import Derived.Test.YteoejhjfbfacdaaDoorQN4
import Derived.Laws.Strings
set_option linter.unusedSimpArgs false
set_option linter.unusedVariables false
namespace Go.Proofs.YteoejhjfbfacdaaDoor.X
open Go Go.RowKit Go.Proofs.YteoejhjfbfacdaaDoor
set_option maxHeartbeats 4000000 in
theorem turn_at {w : World} {t : Nat} {W H : Int} {T : TS} {F : Nat → Prop} (hA0 : TermAt w t T F) (hT : LT w) (hL : Lim W H T) (b : Bool) : Calls Tryd.prog 85 [.pointer (some ⟨t, 0, none⟩), .bool b].toArray w fun e w' => e = .returned (.tuple #[]) ∧ TermAt w' t (turnT T b) (more F w w') ∧ Ch F w w' := by
 obtain ⟨g, o, ba, bn, bc, pa, pn, pc, F1, F2, FB, FP, hI⟩ := hA0
 have hA0 : TermAt w t T F := ⟨g, o, ba, bn, bc, pa, pn, pc, F1, F2, FB, FP, hI⟩
 have hFt := hI.inF.1
 obtain ⟨gv, hgd⟩ := hI.g1.head
 have htg : Df t g := fun e => hI.t1 (e ▸ hI.g1.inF)
 obtain ⟨⟨hw1, hw2⟩, ⟨hh1, hh2⟩, hll, hall⟩ := hI.g1.ok
 have hL0 := hL
 obtain ⟨⟨hwa, hwb⟩, ⟨hha, hhb⟩, ⟨hgw, hgh⟩, ⟨how, hoh⟩, ⟨⟨hcx, hcX⟩, hcy, hcY⟩, ⟨⟨hsx, hsX⟩, hsy, hsY⟩, ⟨⟨hax, haX⟩, hay, haY⟩, ⟨htp, htb, hbh⟩, hbk, hrp⟩ := hL0
 obtain ⟨gv2, hgd2⟩ := hI.g2.head
 have hto : Df t o := fun e => hI.t2 (e ▸ hI.g2.inF)
 refine yA Tryd.func85 rfl <| ys <| ysr <| yp 6 [] (.l (hI.blk.c 95) .z) <| ye <| yc (rY (b == T.alt)) (fun hC10 => ?_) fun hC10 => ?_
 ·have hpp0 := hC10
  refine x_ret (rS (yR0 ?_))
  have hX11 : Ch F w w := Ch.trans (Ch.refl F w) (Ch.refl (fun j => j = t) w) (fun i _ h => h ▸ hFt)
  have hA12 : TermAt w t T (more F w w) := ⟨_, _, _, _, _, _, _, _, _, _, _, _, hI.mono (fun _ h => .inl h) (hI.moreOk hX11.size)⟩
  refine ⟨rfl, TermAt.eq' hA12 ?_, hX11⟩
  exact if_pos hpp0
 have hpp0 := hC10
 refine yk <| ysr <| yp 4 [] .z <| yo (e_store 95 [.bool b] none (by kernel_rfl) hI.blk (of_ble (by kernel_rfl)) ?_)
 intro w13 hB14 hc15
 replace hB14 : Blk w13 t (TS.vals ({ T with alt := b } : TS) g o (.slice ba bn bc) (.slice pa pn pc)) tTerm := Blk.to hB14 (by kernel_rfl)
 have hS17 := Ch.trans (Ch.refl (fun j => j = t) w) hc15 (fun i hi (h : i = t) => h)
 have hg20 := hgd2.ch hc15 (fun h => hto h.symm)
 refine ye <| ys <| yD [12, 15] fun w21 hH22 hc23 => ?_
 have hS24 := Ch.trans hS17 hc23 eZ
 have hg27 := hg20.ch hc23 id
 have ht28 := hB14.ch hc23 id
 refine yd (uL 0 12) [] (.l (ht28.c 1) (.l (ht28.c 0) .z)) <| yK 12 (e_store 0 [pX o] none (by kernel_rfl) ht28 (of_ble (by kernel_rfl)) ?_)
 intro w29 hB30 hc31
 replace hB30 : Blk w29 t (TS.vals ({ T with alt := b } : TS) o o (.slice ba bn bc) (.slice pa pn pc)) tTerm := Blk.to hB30 (by kernel_rfl)
 have hS33 := Ch.trans hS24 hc31 (fun i hi (h : i = t) => h)
 have hg36 := hg27.ch hc31 (fun h => hto h.symm)
 refine x_killed <| yd [13, 14] [] .z <| yK 15 (e_store 1 [pX g] none (by kernel_rfl) hB30 (of_ble (by kernel_rfl)) ?_)
 intro w37 hB38 hc39
 replace hB38 : Blk w37 t (TS.vals ({ T with grid := T.other, other := T.grid, alt := b } : TS) o g (.slice ba bn bc) (.slice pa pn pc)) tTerm := Blk.to hB38 (by kernel_rfl)
 have hS41 := Ch.trans hS33 hc39 (fun i hi (h : i = t) => h)
 have hg44 := hg36.ch hc39 (fun h => hto h.symm)
 refine x_killed <| yDe (nS ?_)
 refine ys <| yD [12, 15] fun w45 hH46 hc47 => ?_
 have hS48 := Ch.trans hS41 hc47 eZ
 have hg51 := hg44.ch hc47 id
 have ht52 := hB38.ch hc47 id
 refine yd (uL 0 12) [] (.a (ht52.cs 18 8) (.a (ht52.cs 2 8) .z)) <| yK 12 (e_store 2 [iX T.away.x, iX T.away.y, .bool T.away.late, .bool T.away.sty.bold, .bool T.away.sty.under, .bool T.away.sty.turned, iX T.away.sty.fore, iX T.away.sty.back] none (by kernel_rfl) ht52 (of_ble (by kernel_rfl)) ?_)
 intro w53 hB54 hc55
 replace hB54 : Blk w53 t (TS.vals ({ T with grid := T.other, other := T.grid, cursor := T.away, alt := b } : TS) o g (.slice ba bn bc) (.slice pa pn pc)) tTerm := Blk.to hB54 (by kernel_rfl)
 have hS57 := Ch.trans hS48 hc55 (fun i hi (h : i = t) => h)
 have hg60 := hg51.ch hc55 (fun h => hto h.symm)
 refine x_killed <| yd [13, 14] [] .z <| yK 15 (e_store 18 [iX T.cursor.x, iX T.cursor.y, .bool T.cursor.late, .bool T.cursor.sty.bold, .bool T.cursor.sty.under, .bool T.cursor.sty.turned, iX T.cursor.sty.fore, iX T.cursor.sty.back] none (by kernel_rfl) hB54 (of_ble (by kernel_rfl)) ?_)
 intro w61 hB62 hc63
 replace hB62 : Blk w61 t (TS.vals ({ T with grid := T.other, other := T.grid, cursor := T.away, away := T.cursor, alt := b } : TS) o g (.slice ba bn bc) (.slice pa pn pc)) tTerm := Blk.to hB62 (by kernel_rfl)
 have hS65 := Ch.trans hS57 hc63 (fun i hi (h : i = t) => h)
 have hg68 := hg60.ch hc63 (fun h => hto h.symm)
 refine x_killed <| yDe (nS ?_)
 refine ysr <| yp 1 [] .z <| ye <| yc (rY b) (fun hC69 => ?_) fun hC69 => ?_
 ·have hpp1 := hC69
  refine ysr <| yp 7 [] (.a (hB62.cs 18 8) .z) <| yo (e_store 2 [iX T.cursor.x, iX T.cursor.y, .bool T.cursor.late, .bool T.cursor.sty.bold, .bool T.cursor.sty.under, .bool T.cursor.sty.turned, iX T.cursor.sty.fore, iX T.cursor.sty.back] none (by kernel_rfl) hB62 (of_ble (by kernel_rfl)) ?_)
  intro w70 hB71 hc72
  replace hB71 : Blk w70 t (TS.vals ({ T with grid := T.other, other := T.grid, away := T.cursor, alt := b } : TS) o g (.slice ba bn bc) (.slice pa pn pc)) tTerm := Blk.to hB71 (by kernel_rfl)
  have hS74 := Ch.trans hS65 hc72 (fun i hi (h : i = t) => h)
  have hg77 := hg68.ch hc72 (fun h => hto h.symm)
  refine ye <| ysr <| yp 8 [] (.l (hB71.c 0) (.l (hg77.c 1) .z)) <| ye <| x_block ?_
  have hL78 : Lim W H ({ T with grid := T.other, other := T.grid, away := T.cursor, alt := b } : TS) := { hL with aw := ⟨⟨(show (0 : Int) ≤ T.cursor.x by omega), (show (T.cursor.x : Int) < W by omega)⟩, (show (0 : Int) ≤ T.cursor.y by omega), (show (T.cursor.y : Int) < H by omega)⟩, g1 := ⟨hL.g2.1, hL.g2.2⟩, g2 := ⟨hL.g1.1, hL.g1.2⟩ }
  have hI79 := hI.swap (T' := ({ T with grid := T.other, other := T.grid, away := T.cursor, alt := b } : TS)) hS74 hB71 rfl rfl rfl rfl
  have hX80 : Ch F w w70 := Ch.trans (Ch.refl F w) hS74 (fun i _ h => h ▸ hFt)
  have hA81 : TermAt w70 t ({ T with grid := T.other, other := T.grid, away := T.cursor, alt := b } : TS) (more F w w70) := ⟨_, _, _, _, _, _, _, _, _, _, _, _, hI79.mono (fun _ h => .inl h) (hI.moreOk hX80.size)⟩
  refine ykeep [0, 57, 58] (f' := [(0, pX t), (57, iX T.other.h), (58, iX 0)]) <| x_loop (σ := Nat) (fun k => [(0, pX t), (57, iX T.other.h), (58, iX ((k : Nat) : Int))]) (fun k u => k ≤ T.other.h.toNat ∧ (TermAt u t (clearsT ({ T with grid := T.other, other := T.grid, away := T.cursor, alt := b } : TS) k) (more F w u) ∧ Ch F w u)) (fun k => T.other.h.toNat - k) 0 rfl ?_ ?_
  ·exact ⟨Nat.zero_le _, (TermAt.eq' hA81 rfl), hX80⟩
  intro k w82 hI83 K84 hL85
  obtain ⟨hk, hN86, hX87⟩ := hI83
  have hT89 := lt_ch hX87 hT (fun b hb => hI.hi b hb)
  have hL91 : Lim W H (clearsT ({ T with grid := T.other, other := T.grid, away := T.cursor, alt := b } : TS) k) := (lim_clears hL78 k)
  generalize hE91 : (clearsT ({ T with grid := T.other, other := T.grid, away := T.cursor, alt := b } : TS) k) = T91 at hN86 hL91
  have hM91 := hL91
  obtain ⟨⟨hwa91, hwb91⟩, ⟨hha91, hhb91⟩, ⟨hgw91, hgh91⟩, ⟨how91, hoh91⟩, ⟨⟨hcx91, hcX91⟩, hcy91, hcY91⟩, ⟨⟨hsx91, hsX91⟩, hsy91, hsY91⟩, ⟨⟨hax91, haX91⟩, hay91, haY91⟩, ⟨htp91, htb91, hbh91⟩, hbk91, hrp91⟩ := hM91
  obtain ⟨g91, o91, ba91, bn91, bc91, pa91, pn91, pc91, F191, F291, FB91, FP91, hI90⟩ := hN86
  obtain ⟨gv91, hgd92⟩ := hI90.g1.head
  have htg93 : Df t g91 := fun e => hI90.t1 (e ▸ hI90.g1.inF)
  refine ysr <| yp 1 [] .z <| ye <| ys <| yc (rL ((k : Nat) : Int) T.other.h) (fun hC94 => ?_) fun hC94 => ?_
  ·refine yk <| ys <| x_block <| ysr <| yp 2 [] .z <| ye <| yD [13] fun w95 hH96 hc97 => ?_
   have hS98 := Ch.trans (Ch.refl (fun j => j = t) w82) hc97 eZ
   have hT99 := lt_ch hc97 hT89 (fun _ h => h.elim)
   have ht100 := hI90.blk.ch hc97 id
   have hg101 := hgd92.ch hc97 id
   refine yd (uL 0 13) [] (.l (ht100.c 0) (.l (ht100.c 0) (.l (hg101.c 0) .z))) ?_
   have hI102 := hI90.scalar (T' := T91) hS98 ht100 rfl rfl rfl rfl
   have hX103 : Ch F w w95 := Ch.trans hX87 hS98 (fun i _ h => h ▸ hFt)
   have hA104 : TermAt w95 t T91 (more F w w95) := ⟨_, _, _, _, _, _, _, _, _, _, _, _, hI102.mono (fun b hb => hb.elim .inl (fun h2 => .inr ⟨h2.1, by have := Ch.size hS98; omega⟩)) (hI.moreOk hX103.size)⟩
   have hI105 := hI102.mono (F' := more F w w95) (fun b hb => hb.elim .inl (fun h2 => .inr ⟨h2.1, by have := Ch.size hS98; omega⟩)) (hI.moreOk hX103.size)
   refine yK 13 (yQ (clear_any _ _ _ (((k : Nat) : Int)) (0) (T91.grid.w) sty0 _ hT99.tb hI105.g1) ?_)
   rintro w111 ⟨hG106, hc107⟩
   obtain ⟨hN108, hX109⟩ := TermAt.next hA0 hX103 (hI105.chF hc107) ⟨_, _, _, _, _, _, _, _, _, _, _, _, hI105.grid1 hc107 hG106 (fun _ h => h)⟩
   have hc107m := hI105.chF hc107
   have hL113 : Lim W H ({ T91 with grid := (clearG T91.grid (((k : Nat) : Int)) (0) (T91.grid.w) sty0) } : TS) := hL91.grid (clearG_w _ _ _ _ _)
   generalize hE113 : ({ T91 with grid := (clearG T91.grid (((k : Nat) : Int)) (0) (T91.grid.w) sty0) } : TS) = T113 at hN108 hL113
   have hM113 := hL113
   obtain ⟨⟨hwa113, hwb113⟩, ⟨hha113, hhb113⟩, ⟨hgw113, hgh113⟩, ⟨how113, hoh113⟩, ⟨⟨hcx113, hcX113⟩, hcy113, hcY113⟩, ⟨⟨hsx113, hsX113⟩, hsy113, hsY113⟩, ⟨⟨hax113, haX113⟩, hay113, haY113⟩, ⟨htp113, htb113, hbh113⟩, hbk113, hrp113⟩ := hM113
   obtain ⟨g113, o113, ba113, bn113, bc113, pa113, pn113, pc113, F1113, F2113, FB113, FP113, hI110⟩ := hN108
   obtain ⟨gv113, hgd114⟩ := hI110.g1.head
   have htg115 : Df t g113 := fun e => hI110.t1 (e ▸ hI110.g1.inF)
   refine x_killed <| yDe (nB (nS ?_))
   refine x_region <| yp 2 [] (.q6 (((k : Nat) : Int) + 1) .z) ?_
   have hX116 : Ch F w w111 := Ch.trans hX109 (Ch.refl (fun j => j = t) w111) (fun i _ h => h ▸ hFt)
   have hA117 : TermAt w111 t T113 (more F w w111) := ⟨_, _, _, _, _, _, _, _, _, _, _, _, hI110.mono (fun b hb => hb.elim .inl (fun h2 => .inr ⟨h2.1, by have := Ch.size (Ch.refl (fun j => j = t) w111); omega⟩)) (hI.moreOk hX116.size)⟩
   refine yE (fun a ha => hL85 (k + 1) _ ⟨(by omega), (TermAt.eq' hA117 (by subst hE113; subst hE91; rfl)), hX116⟩ (by show T.other.h.toNat - (k + 1) < T.other.h.toNat - k; omega) a (ha.kp [0, 57, 58]))
  have hkn : k = T.other.h.toNat := by omega
  refine x_exit (eS (then_exit (block_exit (yR0' ?_))))
  have hX118 : Ch F w w82 := Ch.trans hX87 (Ch.refl (fun j => j = t) w82) (fun i _ h => h ▸ hFt)
  have hA119 : TermAt w82 t T91 (more F w w82) := ⟨_, _, _, _, _, _, _, _, _, _, _, _, hI90.mono (fun b hb => hb.elim .inl (fun h2 => .inr ⟨h2.1, by have := Ch.size (Ch.refl (fun j => j = t) w82); omega⟩)) (hI.moreOk hX118.size)⟩
  subst hE91
  subst hkn
  refine ⟨rfl, TermAt.eq' hA119 ?_, hX118⟩
  exact (if_neg (by rw [hpp0]; decide)).trans (if_pos hpp1)
 have hpp1 := hC69
 refine x_skip (yR0' ?_)
 have hI120 := hI.swap (T' := ({ T with grid := T.other, other := T.grid, cursor := T.away, away := T.cursor, alt := b } : TS)) hS65 hB62 rfl rfl rfl rfl
 have hX121 : Ch F w w61 := Ch.trans (Ch.refl F w) hS65 (fun i _ h => h ▸ hFt)
 have hA122 : TermAt w61 t ({ T with grid := T.other, other := T.grid, cursor := T.away, away := T.cursor, alt := b } : TS) (more F w w61) := ⟨_, _, _, _, _, _, _, _, _, _, _, _, hI120.mono (fun _ h => .inl h) (hI.moreOk hX121.size)⟩
 refine ⟨rfl, TermAt.eq' hA122 ?_, hX121⟩
 exact (if_neg (by rw [hpp0]; decide)).trans (if_neg (by rw [hpp1]; decide))
set_option maxHeartbeats 4000000 in
theorem mode_at {w : World} {t : Nat} {W H : Int} {T : TS} {F : Nat → Prop} (hA0 : TermAt w t T F) (hT : LT w) (hL : Lim W H T) (n : Int) (b : Bool) : Calls Tryd.prog 62 [.pointer (some ⟨t, 0, none⟩), .int .i64 n, .bool b].toArray w fun e w' => e = .returned (.tuple #[]) ∧ TermAt w' t (modeT T n b) (more F w w') ∧ Ch F w w' := by
 obtain ⟨g, o, ba, bn, bc, pa, pn, pc, F1, F2, FB, FP, hI⟩ := hA0
 have hA0 : TermAt w t T F := ⟨g, o, ba, bn, bc, pa, pn, pc, F1, F2, FB, FP, hI⟩
 have hFt := hI.inF.1
 obtain ⟨gv, hgd⟩ := hI.g1.head
 have htg : Df t g := fun e => hI.t1 (e ▸ hI.g1.inF)
 obtain ⟨⟨hw1, hw2⟩, ⟨hh1, hh2⟩, hll, hall⟩ := hI.g1.ok
 have hL0 := hL
 obtain ⟨⟨hwa, hwb⟩, ⟨hha, hhb⟩, ⟨hgw, hgh⟩, ⟨how, hoh⟩, ⟨⟨hcx, hcX⟩, hcy, hcY⟩, ⟨⟨hsx, hsX⟩, hsy, hsY⟩, ⟨⟨hax, haX⟩, hay, haY⟩, ⟨htp, htb, hbh⟩, hbk, hrp⟩ := hL0
 refine yA Tryd.func62 rfl <| ysr <| yp 1 [] .z <| ye <| x_block <| ysr <| yp 2 [] .z <| ye <| yc (rE n 6) (fun hC10 => ?_) fun hC10 => ?_
 ·have hpp0 := hC10
  refine ysr <| yp 4 [] .z <| yo (e_store 89 [.bool b] none (by kernel_rfl) hI.blk (of_ble (by kernel_rfl)) ?_)
  intro w11 hB12 hc13
  replace hB12 : Blk w11 t (TS.vals ({ T with origin := b } : TS) g o (.slice ba bn bc) (.slice pa pn pc)) tTerm := Blk.to hB12 (by kernel_rfl)
  have hS15 := Ch.trans (Ch.refl (fun j => j = t) w) hc13 (fun i hi (h : i = t) => h)
  have hT17 := lt_ch hc13 hT (fun b (h : b = t) => h ▸ hI.hi t hFt)
  refine ye <| x_region <| yp 1 [] .z ?_
  have hL18 : Lim W H ({ T with origin := b } : TS) := { hL with  }
  have hI19 := hI.scalar (T' := ({ T with origin := b } : TS)) hS15 hB12 rfl rfl rfl rfl
  have hX20 : Ch F w w11 := Ch.trans (Ch.refl F w) hS15 (fun i _ h => h ▸ hFt)
  have hA21 : TermAt w11 t ({ T with origin := b } : TS) (more F w w11) := ⟨_, _, _, _, _, _, _, _, _, _, _, _, hI19.mono (fun _ h => .inl h) (hI.moreOk hX20.size)⟩
  refine yo (yQ (home_lim hA21 hT17.tb hL18  (1) (1) (by constructor <;> omega) (by constructor <;> omega)) ?_)
  rintro w27 ⟨hB22, hc23⟩
  obtain ⟨hN24, hX25⟩ := TermAt.next hA0 hX20 hc23 hB22
  have hL29 : Lim W H (homeT ({ T with origin := b } : TS) (1) (1)) := (lim_home hL18 (1) (1))
  generalize hE29 : (homeT ({ T with origin := b } : TS) (1) (1)) = T29 at hN24 hL29
  have hM29 := hL29
  obtain ⟨⟨hwa29, hwb29⟩, ⟨hha29, hhb29⟩, ⟨hgw29, hgh29⟩, ⟨how29, hoh29⟩, ⟨⟨hcx29, hcX29⟩, hcy29, hcY29⟩, ⟨⟨hsx29, hsX29⟩, hsy29, hsY29⟩, ⟨⟨hax29, haX29⟩, hay29, haY29⟩, ⟨htp29, htb29, hbh29⟩, hbk29, hrp29⟩ := hM29
  obtain ⟨g29, o29, ba29, bn29, bc29, pa29, pn29, pc29, F129, F229, FB29, FP29, hI26⟩ := hN24
  obtain ⟨gv29, hgd30⟩ := hI26.g1.head
  have htg31 : Df t g29 := fun e => hI26.t1 (e ▸ hI26.g1.inF)
  refine yE (nB (yR0' ?_))
  have hX32 : Ch F w w27 := Ch.trans hX25 (Ch.refl (fun j => j = t) w27) (fun i _ h => h ▸ hFt)
  have hA33 : TermAt w27 t T29 (more F w w27) := ⟨_, _, _, _, _, _, _, _, _, _, _, _, hI26.mono (fun b hb => hb.elim .inl (fun h2 => .inr ⟨h2.1, by have := Ch.size (Ch.refl (fun j => j = t) w27); omega⟩)) (hI.moreOk hX32.size)⟩
  subst hE29
  refine ⟨rfl, TermAt.eq' hA33 ?_, hX32⟩
  simp only [modeT, hpp0, ↓reduceIte, Int.reduceEq, Int.reduceLT, Int.reduceLE, Bool.and_true, Bool.true_and, Bool.and_false, Bool.false_and, Bool.false_eq_true, Bool.true_eq_false, and_true, true_and, and_false, false_and, or_true, true_or, or_false, false_or]
 have hpp0 := hC10
 refine ysr <| yp 2 [] .z <| ye <| yc (rE n 7) (fun hC34 => ?_) fun hC34 => ?_
 ·have hpp1 := hC34
  refine ysr <| yp 4 [] .z <| yo (e_store 88 [.bool b] none (by kernel_rfl) hI.blk (of_ble (by kernel_rfl)) ?_)
  intro w35 hB36 hc37
  replace hB36 : Blk w35 t (TS.vals ({ T with wrap := b } : TS) g o (.slice ba bn bc) (.slice pa pn pc)) tTerm := Blk.to hB36 (by kernel_rfl)
  have hS39 := Ch.trans (Ch.refl (fun j => j = t) w) hc37 (fun i hi (h : i = t) => h)
  refine ye <| x_region <| yp 7 [] (.l (hB36.c 4) .z) <| yw [27] (rY T.cursor.late) (fun hC42 => ?_) fun hC42 => ?_
  ·have hpp2 := hC42
   refine yp 12 [] .z <| yo (e_store 4 [.bool b] none (by kernel_rfl) hB36 (of_ble (by kernel_rfl)) ?_)
   intro w43 hB44 hc45
   replace hB44 : Blk w43 t (TS.vals ({ T with cursor := (Cur.mk T.cursor.x T.cursor.y b T.cursor.sty), wrap := b } : TS) g o (.slice ba bn bc) (.slice pa pn pc)) tTerm := Blk.to hB44 (by kernel_rfl)
   have hS47 := Ch.trans hS39 hc45 (fun i hi (h : i = t) => h)
   refine yE (nB (yR0' ?_))
   have hI50 := hI.scalar (T' := ({ T with cursor := (Cur.mk T.cursor.x T.cursor.y b T.cursor.sty), wrap := b } : TS)) hS47 hB44 rfl rfl rfl rfl
   have hX51 : Ch F w w43 := Ch.trans (Ch.refl F w) hS47 (fun i _ h => h ▸ hFt)
   have hA52 : TermAt w43 t ({ T with cursor := (Cur.mk T.cursor.x T.cursor.y b T.cursor.sty), wrap := b } : TS) (more F w w43) := ⟨_, _, _, _, _, _, _, _, _, _, _, _, hI50.mono (fun _ h => .inl h) (hI.moreOk hX51.size)⟩
   refine ⟨rfl, TermAt.eq' hA52 ?_, hX51⟩
   simp only [modeT, eq_false hpp0, hpp1, hpp2, ↓reduceIte, Int.reduceEq, Int.reduceLT, Int.reduceLE, Bool.and_true, Bool.true_and, Bool.and_false, Bool.false_and, Bool.false_eq_true, Bool.true_eq_false, and_true, true_and, and_false, false_and, or_true, true_or, or_false, false_or]
  have hpp2 := hC42
  refine yp 12 [] .z <| yo (e_store 4 [.bool false] none (by kernel_rfl) hB36 (of_ble (by kernel_rfl)) ?_)
  intro w53 hB54 hc55
  replace hB54 : Blk w53 t (TS.vals ({ T with cursor := (Cur.mk T.cursor.x T.cursor.y false T.cursor.sty), wrap := b } : TS) g o (.slice ba bn bc) (.slice pa pn pc)) tTerm := Blk.to hB54 (by kernel_rfl)
  have hS57 := Ch.trans hS39 hc55 (fun i hi (h : i = t) => h)
  refine yE (nB (yR0' ?_))
  have hI60 := hI.scalar (T' := ({ T with cursor := (Cur.mk T.cursor.x T.cursor.y false T.cursor.sty), wrap := b } : TS)) hS57 hB54 rfl rfl rfl rfl
  have hX61 : Ch F w w53 := Ch.trans (Ch.refl F w) hS57 (fun i _ h => h ▸ hFt)
  have hA62 : TermAt w53 t ({ T with cursor := (Cur.mk T.cursor.x T.cursor.y false T.cursor.sty), wrap := b } : TS) (more F w w53) := ⟨_, _, _, _, _, _, _, _, _, _, _, _, hI60.mono (fun _ h => .inl h) (hI.moreOk hX61.size)⟩
  refine ⟨rfl, TermAt.eq' hA62 ?_, hX61⟩
  simp only [modeT, eq_false hpp0, hpp1, hpp2, ↓reduceIte, Int.reduceEq, Int.reduceLT, Int.reduceLE, Bool.and_true, Bool.true_and, Bool.and_false, Bool.false_and, Bool.false_eq_true, Bool.true_eq_false, and_true, true_and, and_false, false_and, or_true, true_or, or_false, false_or]
 have hpp1 := hC34
 refine ysr <| yp 2 [] .z <| ye <| yc (rE n 25) (fun hC63 => ?_) fun hC63 => ?_
 ·have hpp2 := hC63
  refine x_region <| yp 5 [] .z <| yo (e_store 91 [.bool (!b)] none (by kernel_rfl) hI.blk (of_ble (by kernel_rfl)) ?_)
  intro w64 hB65 hc66
  replace hB65 : Blk w64 t (TS.vals ({ T with hidden := (!b) } : TS) g o (.slice ba bn bc) (.slice pa pn pc)) tTerm := Blk.to hB65 (by kernel_rfl)
  have hS68 := Ch.trans (Ch.refl (fun j => j = t) w) hc66 (fun i hi (h : i = t) => h)
  refine yE (nB (yR0' ?_))
  have hI71 := hI.scalar (T' := ({ T with hidden := (!b) } : TS)) hS68 hB65 rfl rfl rfl rfl
  have hX72 : Ch F w w64 := Ch.trans (Ch.refl F w) hS68 (fun i _ h => h ▸ hFt)
  have hA73 : TermAt w64 t ({ T with hidden := (!b) } : TS) (more F w w64) := ⟨_, _, _, _, _, _, _, _, _, _, _, _, hI71.mono (fun _ h => .inl h) (hI.moreOk hX72.size)⟩
  refine ⟨rfl, TermAt.eq' hA73 ?_, hX72⟩
  simp only [modeT, eq_false hpp0, eq_false hpp1, hpp2, ↓reduceIte, Int.reduceEq, Int.reduceLT, Int.reduceLE, Bool.and_true, Bool.true_and, Bool.and_false, Bool.false_and, Bool.false_eq_true, Bool.true_eq_false, and_true, true_and, and_false, false_and, or_true, true_or, or_false, false_or]
 have hpp2 := hC63
 refine ysr <| yp 2 [] .z <| ye <| yc (rE n 1049) (fun hC74 => ?_) fun hC74 => ?_
 ·have hpp3 := hC74
  refine x_region <| yp 2 [] .z ?_
  have hX75 : Ch F w w := Ch.trans (Ch.refl F w) (Ch.refl (fun j => j = t) w) (fun i _ h => h ▸ hFt)
  have hA76 : TermAt w t T (more F w w) := ⟨_, _, _, _, _, _, _, _, _, _, _, _, hI.mono (fun _ h => .inl h) (hI.moreOk hX75.size)⟩
  refine yo (yQ (turn_at hA76 hT hL  b) ?_)
  rintro w82 ⟨hB77, hc78⟩
  obtain ⟨hN79, hX80⟩ := TermAt.next hA0 hX75 hc78 hB77
  have hL84 : Lim W H (turnT T b) := (lim_turn hL _)
  generalize hE84 : (turnT T b) = T84 at hN79 hL84
  have hM84 := hL84
  obtain ⟨⟨hwa84, hwb84⟩, ⟨hha84, hhb84⟩, ⟨hgw84, hgh84⟩, ⟨how84, hoh84⟩, ⟨⟨hcx84, hcX84⟩, hcy84, hcY84⟩, ⟨⟨hsx84, hsX84⟩, hsy84, hsY84⟩, ⟨⟨hax84, haX84⟩, hay84, haY84⟩, ⟨htp84, htb84, hbh84⟩, hbk84, hrp84⟩ := hM84
  obtain ⟨g84, o84, ba84, bn84, bc84, pa84, pn84, pc84, F184, F284, FB84, FP84, hI81⟩ := hN79
  obtain ⟨gv84, hgd85⟩ := hI81.g1.head
  have htg86 : Df t g84 := fun e => hI81.t1 (e ▸ hI81.g1.inF)
  refine yE (nB (yR0' ?_))
  have hX87 : Ch F w w82 := Ch.trans hX80 (Ch.refl (fun j => j = t) w82) (fun i _ h => h ▸ hFt)
  have hA88 : TermAt w82 t T84 (more F w w82) := ⟨_, _, _, _, _, _, _, _, _, _, _, _, hI81.mono (fun b hb => hb.elim .inl (fun h2 => .inr ⟨h2.1, by have := Ch.size (Ch.refl (fun j => j = t) w82); omega⟩)) (hI.moreOk hX87.size)⟩
  subst hE84
  refine ⟨rfl, TermAt.eq' hA88 ?_, hX87⟩
  simp only [modeT, eq_false hpp0, eq_false hpp1, eq_false hpp2, hpp3, ↓reduceIte, Int.reduceEq, Int.reduceLT, Int.reduceLE, Bool.and_true, Bool.true_and, Bool.and_false, Bool.false_and, Bool.false_eq_true, Bool.true_eq_false, and_true, true_and, and_false, false_and, or_true, true_or, or_false, false_or]
 have hpp3 := hC74
 refine x_skip (nB (yR0' ?_))
 have hX89 : Ch F w w := Ch.trans (Ch.refl F w) (Ch.refl (fun j => j = t) w) (fun i _ h => h ▸ hFt)
 have hA90 : TermAt w t T (more F w w) := ⟨_, _, _, _, _, _, _, _, _, _, _, _, hI.mono (fun _ h => .inl h) (hI.moreOk hX89.size)⟩
 refine ⟨rfl, TermAt.eq' hA90 ?_, hX89⟩
 simp only [modeT, eq_false hpp0, eq_false hpp1, eq_false hpp2, eq_false hpp3, ↓reduceIte, Int.reduceEq, Int.reduceLT, Int.reduceLE, Bool.and_true, Bool.true_and, Bool.and_false, Bool.false_and, Bool.false_eq_true, Bool.true_eq_false, and_true, true_and, and_false, false_and, or_true, true_or, or_false, false_or]
theorem modes_next (l : List Int) (T : TS) (b : Bool) {k : Nat} (h : k < l.length) : (l.take (k + 1)).foldl (fun T n => modeT T n b) T = modeT ((l.take k).foldl (fun T n => modeT T n b) T) (l.getD k 0) b := by
 rw [List.take_succ_eq_append_getElem h, List.foldl_append]
 simp [List.getD, List.getElem?_eq_getElem h]
set_option maxHeartbeats 4000000 in
theorem csi_at {w : World} {t : Nat} {W H : Int} {T : TS} {F : Nat → Prop} (hA0 : TermAt w t T F) (hT : LT w) (hL : Lim W H T) {ao : Option Nat} {an cc : Nat} {ac : Ac} (hV : IntsAt w .i64 ao an cc ac.params (fun b => ¬ F b ∧ b < w.heap.size)) (hV8 : an ≤ 8) (hVb : ∀ x ∈ ac.params, 0 ≤ x ∧ x ≤ 9999) : Calls Tryd.prog 45 [.pointer (some ⟨t, 0, none⟩), .agg #[.int .i64 ac.kind, .int .i32 ac.rune, .int .u8 ac.last, .string ac.marks, .slice (ao.map at0) an cc, .string ac.text]].toArray w fun e w' => e = .returned (.tuple #[]) ∧ TermAt w' t (csiT T ac) (more F w w') ∧ Ch F w w' := by
 obtain ⟨g, o, ba, bn, bc, pa, pn, pc, F1, F2, FB, FP, hI⟩ := hA0
 have hA0 : TermAt w t T F := ⟨g, o, ba, bn, bc, pa, pn, pc, F1, F2, FB, FP, hI⟩
 have hFt := hI.inF.1
 obtain ⟨gv, hgd⟩ := hI.g1.head
 have htg : Df t g := fun e => hI.t1 (e ▸ hI.g1.inF)
 obtain ⟨⟨hw1, hw2⟩, ⟨hh1, hh2⟩, hll, hall⟩ := hI.g1.ok
 have hL0 := hL
 obtain ⟨⟨hwa, hwb⟩, ⟨hha, hhb⟩, ⟨hgw, hgh⟩, ⟨how, hoh⟩, ⟨⟨hcx, hcX⟩, hcy, hcY⟩, ⟨⟨hsx, hsX⟩, hsy, hsY⟩, ⟨⟨hax, haX⟩, hay, haY⟩, ⟨htp, htb, hbh⟩, hbk, hrp⟩ := hL0
 have hnl : ac.params.length = an := hV.2.1
 refine yA Tryd.func45 rfl <| ysr <| yo (yN [iX ac.kind, rX ac.rune, uX ac.last, .string ac.marks, .slice (ao.map at0) an cc, .string ac.text] 73 fun w10 b11 hb12 hz13 hB14 hc15 => ?_)
 have hlo16 : w.heap.size ≤ b11 := by rw [hb12]; exact Ch.size (Ch.refl (fun j => j = t) w)
 have hS17 := Ch.trans (Ch.refl (fun j => j = t) w) hc15 eZ
 have ht19 := hI.blk.ch hc15 id
 have hT21 := lt_ch hc15 hT (fun _ h => h.elim)
 have hV22 := hV.ch hc15 iZ
 refine ye <| x_block <| ysr <| yp 4 [] (.l (hB14.c 3) .z) <| ye <| yc (rY ((ac.marks).toList == (ByteArray.empty).toList)) (fun hC23 => ?_) fun hC23 => ?_
 ·have hpp0 := hC23
  refine x_region <| yp 2 [] (.a (hB14.cs 0 6) .z) ?_
  have hI24 := hI.scalar (T' := T) hS17 ht19 rfl rfl rfl rfl
  have hA25 : TermAt w10 t T F := ⟨_, _, _, _, _, _, _, _, _, _, _, _, hI24⟩
  have hpre26 : Ch F w w10 := hS17.mono (fun i _ h => h ▸ hFt)
  have hly27 := hB14.lt
  have hX28 : Ch F w10 w10 := Ch.trans (Ch.refl F w10) (Ch.refl (fun j => j = t) w10) (fun i _ h => h ▸ hFt)
  have hA29 : TermAt w10 t T (more F w10 w10) := ⟨_, _, _, _, _, _, _, _, _, _, _, _, hI24.mono (fun _ h => .inl h) (hI24.moreOk hX28.size)⟩
  have hVa30 := hV22.mono (K' := fun b => ¬ more F w10 w10 b ∧ b < w10.heap.size) (fun b hb => ⟨fun h => h.elim hb.1 (fun h => by have := hb.2; have := Ch.size hpre26; omega), by have := hb.2; have := Ch.size hX28; have := Ch.size hpre26; omega⟩)
  refine yo (yQ (plain_at hA29 hT21 hL  hVa30 hV8 hVb) ?_)
  rintro w36 ⟨hB31, hc32⟩
  obtain ⟨hN33, hX34⟩ := TermAt.next hA25 hX28 hc32 hB31
  have hL40 : Lim W H (plainT T ac.last ac.params) := (lim_plain hL _ _)
  generalize hE40 : (plainT T ac.last ac.params) = T40 at hN33 hL40
  have hM40 := hL40
  obtain ⟨⟨hwa40, hwb40⟩, ⟨hha40, hhb40⟩, ⟨hgw40, hgh40⟩, ⟨how40, hoh40⟩, ⟨⟨hcx40, hcX40⟩, hcy40, hcY40⟩, ⟨⟨hsx40, hsX40⟩, hsy40, hsY40⟩, ⟨⟨hax40, haX40⟩, hay40, haY40⟩, ⟨htp40, htb40, hbh40⟩, hbk40, hrp40⟩ := hM40
  obtain ⟨g40, o40, ba40, bn40, bc40, pa40, pn40, pc40, F140, F240, FB40, FP40, hI35⟩ := hN33
  obtain ⟨gv40, hgd41⟩ := hI35.g1.head
  have htg42 : Df t g40 := fun e => hI35.t1 (e ▸ hI35.g1.inF)
  refine yE (nB (yR0' ?_))
  have hX43 : Ch F w10 w36 := Ch.trans hX34 (Ch.refl (fun j => j = t) w36) (fun i _ h => h ▸ hFt)
  have hA44 : TermAt w36 t T40 (more F w10 w36) := ⟨_, _, _, _, _, _, _, _, _, _, _, _, hI35.mono (fun b hb => hb.elim .inl (fun h2 => .inr ⟨h2.1, by have := Ch.size (Ch.refl (fun j => j = t) w36); omega⟩)) (hI24.moreOk hX43.size)⟩
  subst hE40
  refine ⟨rfl, TermAt.eq' (hA44.mono (more_le hpre26.size) (hI.moreOk (Nat.le_trans hpre26.size hX43.size))) ?_, Ch.trans hpre26 hX43 iZ⟩
  simp only [csiT, hpp0, ↓reduceIte, Int.reduceEq, Int.reduceLT, Int.reduceLE, Bool.and_true, Bool.true_and, Bool.and_false, Bool.false_and, Bool.false_eq_true, Bool.true_eq_false, and_true, true_and, and_false, false_and, or_true, true_or, or_false, false_or]
 have hpp0 := hC23
 refine ysr <| yp 4 [] (.l (hB14.c 3) .z) <| yw [17] (rY ((ac.marks).toList == ((⟨#[63]⟩ : ByteArray)).toList)) (fun hC45 => ?_) fun hC45 => ?_
 ·have hpp1 := hC45
  refine yp 8 [] (.l (hB14.c 2) .z) <| yw [21] (rE ac.last 104) (fun hC46 => ?_) fun hC46 => ?_
  ·have hpp2 := hC46
   refine yp 14 [] .z <| ye <| yct <| ysr <| yp 4 [] (.l (hB14.c 4) .z) <| ye <| x_block ?_
   rcases ao with _ | ab
   ·have hnil : ac.params = [] := by have := hV.1.1 rfl; simpa using this
    have hn0 : an = 0 := by have := hV.2.1; rw [hnil] at this; exact this.symm
    have hI47 := hI.scalar (T' := T) hS17 ht19 rfl rfl rfl rfl
    have hA48 : TermAt w10 t T F := ⟨_, _, _, _, _, _, _, _, _, _, _, _, hI47⟩
    have hpre49 : Ch F w w10 := hS17.mono (fun i _ h => h ▸ hFt)
    have hly50 := hB14.lt
    have hX51 : Ch F w10 w10 := Ch.trans (Ch.refl F w10) (Ch.refl (fun j => j = t) w10) (fun i _ h => h ▸ hFt)
    have hA52 : TermAt w10 t T (more F w10 w10) := ⟨_, _, _, _, _, _, _, _, _, _, _, _, hI47.mono (fun _ h => .inl h) (hI47.moreOk hX51.size)⟩
    refine ykeep [0, 3, 28, 29, 30] (f' := [(0, pX t), (3, pX b11), (28, .slice none an cc), (29, iX ((an : Nat) : Int)), (30, iX 0)]) <| x_loop (σ := Nat) (fun k => [(0, pX t), (3, pX b11), (28, .slice none an cc), (29, iX ((an : Nat) : Int)), (30, iX ((k : Nat) : Int))]) (fun k u => k ≤ an ∧ (TermAt u t ((ac.params.take k).foldl (fun T n => modeT T n ((ac.last : Int) == 104)) T) (more F w10 u) ∧ Ch F w10 u)) (fun k => an - k) 0 rfl ?_ ?_
    ·exact ⟨Nat.zero_le _, (TermAt.eq' hA52 rfl), hX51⟩
    intro k w53 hI54 K55 hL56
    obtain ⟨hk, hN57, hX58⟩ := hI54
    have hL64 : Lim W H ((ac.params.take k).foldl (fun T n => modeT T n ((ac.last : Int) == 104)) T) := (lim_modes hL _ _)
    generalize hE64 : ((ac.params.take k).foldl (fun T n => modeT T n ((ac.last : Int) == 104)) T) = T64 at hN57 hL64
    have hM64 := hL64
    obtain ⟨⟨hwa64, hwb64⟩, ⟨hha64, hhb64⟩, ⟨hgw64, hgh64⟩, ⟨how64, hoh64⟩, ⟨⟨hcx64, hcX64⟩, hcy64, hcY64⟩, ⟨⟨hsx64, hsX64⟩, hsy64, hsY64⟩, ⟨⟨hax64, haX64⟩, hay64, haY64⟩, ⟨htp64, htb64, hbh64⟩, hbk64, hrp64⟩ := hM64
    obtain ⟨g64, o64, ba64, bn64, bc64, pa64, pn64, pc64, F164, F264, FB64, FP64, hI63⟩ := hN57
    obtain ⟨gv64, hgd65⟩ := hI63.g1.head
    have htg66 : Df t g64 := fun e => hI63.t1 (e ▸ hI63.g1.inF)
    refine ysr <| yp 1 [] .z <| ye <| ys <| yc (rL ((k : Nat) : Int) ((an : Nat) : Int)) (fun hC67 => ?_) fun hC67 => ?_
    ·exfalso; omega
    have hkn : k = ac.params.length := by omega
    refine x_exit (eS (then_exit (block_exit (nB (yR0' ?_)))))
    have hX68 : Ch F w10 w53 := Ch.trans hX58 (Ch.refl (fun j => j = t) w53) (fun i _ h => h ▸ hFt)
    have hA69 : TermAt w53 t T64 (more F w10 w53) := ⟨_, _, _, _, _, _, _, _, _, _, _, _, hI63.mono (fun b hb => hb.elim .inl (fun h2 => .inr ⟨h2.1, by have := Ch.size (Ch.refl (fun j => j = t) w53); omega⟩)) (hI47.moreOk hX68.size)⟩
    subst hE64
    subst hkn
    refine ⟨rfl, TermAt.eq' (hA69.mono (more_le hpre49.size) (hI.moreOk (Nat.le_trans hpre49.size hX68.size))) ?_, Ch.trans hpre49 hX68 iZ⟩
    simp only [csiT, List.take_length, hpp0, hpp1, hpp2, ↓reduceIte, Int.reduceEq, Bool.false_eq_true, and_true, true_and, or_true, true_or, or_false, false_or]
   have hnl : ac.params.length = an := hV.2.1
   have hI70 := hI.scalar (T' := T) hS17 ht19 rfl rfl rfl rfl
   have hA71 : TermAt w10 t T F := ⟨_, _, _, _, _, _, _, _, _, _, _, _, hI70⟩
   have hpre72 : Ch F w w10 := hS17.mono (fun i _ h => h ▸ hFt)
   have hly73 := hB14.lt
   have hX74 : Ch F w10 w10 := Ch.trans (Ch.refl F w10) (Ch.refl (fun j => j = t) w10) (fun i _ h => h ▸ hFt)
   have hA75 : TermAt w10 t T (more F w10 w10) := ⟨_, _, _, _, _, _, _, _, _, _, _, _, hI70.mono (fun _ h => .inl h) (hI70.moreOk hX74.size)⟩
   refine ykeep [0, 3, 28, 29, 30] (f' := [(0, pX t), (3, pX b11), (28, .slice (some ⟨ab, 0, none⟩) an cc), (29, iX ((an : Nat) : Int)), (30, iX 0)]) <| x_loop (σ := Nat) (fun k => [(0, pX t), (3, pX b11), (28, .slice (some ⟨ab, 0, none⟩) an cc), (29, iX ((an : Nat) : Int)), (30, iX ((k : Nat) : Int))]) (fun k u => k ≤ an ∧ (TermAt u t ((ac.params.take k).foldl (fun T n => modeT T n ((ac.last : Int) == 104)) T) (more F w10 u) ∧ Ch F w10 u)) (fun k => an - k) 0 rfl ?_ ?_
   ·exact ⟨Nat.zero_le _, (TermAt.eq' hA75 rfl), hX74⟩
   intro k w76 hI77 K78 hL79
   obtain ⟨hk, hN80, hX81⟩ := hI77
   have hT83 := lt_ch hX81 hT21 (fun b hb => hI70.hi b hb)
   have hV84 := hV22.ch hX81 (fun b hb h => hb.1 h)
   have hB85 := hB14.ch hX81 (fun h => by have := hI.lt _ h; omega)
   have hL87 : Lim W H ((ac.params.take k).foldl (fun T n => modeT T n ((ac.last : Int) == 104)) T) := (lim_modes hL _ _)
   generalize hE87 : ((ac.params.take k).foldl (fun T n => modeT T n ((ac.last : Int) == 104)) T) = T87 at hN80 hL87
   have hM87 := hL87
   obtain ⟨⟨hwa87, hwb87⟩, ⟨hha87, hhb87⟩, ⟨hgw87, hgh87⟩, ⟨how87, hoh87⟩, ⟨⟨hcx87, hcX87⟩, hcy87, hcY87⟩, ⟨⟨hsx87, hsX87⟩, hsy87, hsY87⟩, ⟨⟨hax87, haX87⟩, hay87, haY87⟩, ⟨htp87, htb87, hbh87⟩, hbk87, hrp87⟩ := hM87
   obtain ⟨g87, o87, ba87, bn87, bc87, pa87, pn87, pc87, F187, F287, FB87, FP87, hI86⟩ := hN80
   obtain ⟨gv87, hgd88⟩ := hI86.g1.head
   have htg89 : Df t g87 := fun e => hI86.t1 (e ▸ hI86.g1.inF)
   refine ysr <| yp 1 [] .z <| ye <| ys <| yc (rL ((k : Nat) : Int) ((an : Nat) : Int)) (fun hC90 => ?_) fun hC90 => ?_
   ·refine yk <| ys <| x_block <| ysr <| yp 3 [] (.i ((k : Nat) : Int) (an) (.l (o := (0 + (((k : Nat) : Int)).toNat * 1)) (ints_cell hV84.1 k (by omega)) .z)) <| ye <| x_region <| yp 5 [] (.l (hB85.c 2) .z) ?_
    have hX91 : Ch F w10 w76 := Ch.trans hX81 (Ch.refl (fun j => j = t) w76) (fun i _ h => h ▸ hFt)
    have hA92 : TermAt w76 t T87 (more F w10 w76) := ⟨_, _, _, _, _, _, _, _, _, _, _, _, hI86.mono (fun b hb => hb.elim .inl (fun h2 => .inr ⟨h2.1, by have := Ch.size (Ch.refl (fun j => j = t) w76); omega⟩)) (hI70.moreOk hX91.size)⟩
    refine yo (yQ (mode_at hA92 hT83 hL87  ((ac.params.getD k 0)) ((ac.last : Int) == 104)) ?_)
    rintro w98 ⟨hB93, hc94⟩
    obtain ⟨hN95, hX96⟩ := TermAt.next hA71 hX91 hc94 hB93
    have hL102 : Lim W H (modeT T87 ((ac.params.getD k 0)) ((ac.last : Int) == 104)) := (lim_mode hL87 _ _)
    generalize hE102 : (modeT T87 ((ac.params.getD k 0)) ((ac.last : Int) == 104)) = T102 at hN95 hL102
    have hM102 := hL102
    obtain ⟨⟨hwa102, hwb102⟩, ⟨hha102, hhb102⟩, ⟨hgw102, hgh102⟩, ⟨how102, hoh102⟩, ⟨⟨hcx102, hcX102⟩, hcy102, hcY102⟩, ⟨⟨hsx102, hsX102⟩, hsy102, hsY102⟩, ⟨⟨hax102, haX102⟩, hay102, haY102⟩, ⟨htp102, htb102, hbh102⟩, hbk102, hrp102⟩ := hM102
    obtain ⟨g102, o102, ba102, bn102, bc102, pa102, pn102, pc102, F1102, F2102, FB102, FP102, hI97⟩ := hN95
    obtain ⟨gv102, hgd103⟩ := hI97.g1.head
    have htg104 : Df t g102 := fun e => hI97.t1 (e ▸ hI97.g1.inF)
    refine yE (nB (nS ?_))
    refine x_region <| yp 2 [] (.q6 (((k : Nat) : Int) + 1) .z) ?_
    have hX105 : Ch F w10 w98 := Ch.trans hX96 (Ch.refl (fun j => j = t) w98) (fun i _ h => h ▸ hFt)
    have hA106 : TermAt w98 t T102 (more F w10 w98) := ⟨_, _, _, _, _, _, _, _, _, _, _, _, hI97.mono (fun b hb => hb.elim .inl (fun h2 => .inr ⟨h2.1, by have := Ch.size (Ch.refl (fun j => j = t) w98); omega⟩)) (hI70.moreOk hX105.size)⟩
    refine yE (fun a ha => hL79 (k + 1) _ ⟨(by omega), (TermAt.eq' hA106 (by subst hE102; subst hE87; exact modes_next _ _ _ (by omega))), hX105⟩ (by show an - (k + 1) < an - k; omega) a (ha.kp [0, 3, 28, 29, 30]))
   have hkn : k = ac.params.length := by omega
   refine x_exit (eS (then_exit (block_exit (nB (yR0' ?_)))))
   have hX107 : Ch F w10 w76 := Ch.trans hX81 (Ch.refl (fun j => j = t) w76) (fun i _ h => h ▸ hFt)
   have hA108 : TermAt w76 t T87 (more F w10 w76) := ⟨_, _, _, _, _, _, _, _, _, _, _, _, hI86.mono (fun b hb => hb.elim .inl (fun h2 => .inr ⟨h2.1, by have := Ch.size (Ch.refl (fun j => j = t) w76); omega⟩)) (hI70.moreOk hX107.size)⟩
   subst hE87
   subst hkn
   refine ⟨rfl, TermAt.eq' (hA108.mono (more_le hpre72.size) (hI.moreOk (Nat.le_trans hpre72.size hX107.size))) ?_, Ch.trans hpre72 hX107 iZ⟩
   simp only [csiT, List.take_length, hpp0, hpp1, hpp2, ↓reduceIte, Int.reduceEq, Bool.false_eq_true, and_true, true_and, or_true, true_or, or_false, false_or]
  have hpp2 := hC46
  refine yp 14 [] (.l (hB14.c 2) .z) <| ye <| yc (rE ac.last 108) (fun hC109 => ?_) fun hC109 => ?_
  ·have hpp3 := hC109
   refine ysr <| yp 4 [] (.l (hB14.c 4) .z) <| ye <| x_block ?_
   rcases ao with _ | ab
   ·have hnil : ac.params = [] := by have := hV.1.1 rfl; simpa using this
    have hn0 : an = 0 := by have := hV.2.1; rw [hnil] at this; exact this.symm
    have hI110 := hI.scalar (T' := T) hS17 ht19 rfl rfl rfl rfl
    have hA111 : TermAt w10 t T F := ⟨_, _, _, _, _, _, _, _, _, _, _, _, hI110⟩
    have hpre112 : Ch F w w10 := hS17.mono (fun i _ h => h ▸ hFt)
    have hly113 := hB14.lt
    have hX114 : Ch F w10 w10 := Ch.trans (Ch.refl F w10) (Ch.refl (fun j => j = t) w10) (fun i _ h => h ▸ hFt)
    have hA115 : TermAt w10 t T (more F w10 w10) := ⟨_, _, _, _, _, _, _, _, _, _, _, _, hI110.mono (fun _ h => .inl h) (hI110.moreOk hX114.size)⟩
    refine ykeep [0, 3, 28, 29, 30] (f' := [(0, pX t), (3, pX b11), (28, .slice none an cc), (29, iX ((an : Nat) : Int)), (30, iX 0)]) <| x_loop (σ := Nat) (fun k => [(0, pX t), (3, pX b11), (28, .slice none an cc), (29, iX ((an : Nat) : Int)), (30, iX ((k : Nat) : Int))]) (fun k u => k ≤ an ∧ (TermAt u t ((ac.params.take k).foldl (fun T n => modeT T n ((ac.last : Int) == 104)) T) (more F w10 u) ∧ Ch F w10 u)) (fun k => an - k) 0 rfl ?_ ?_
    ·exact ⟨Nat.zero_le _, (TermAt.eq' hA115 rfl), hX114⟩
    intro k w116 hI117 K118 hL119
    obtain ⟨hk, hN120, hX121⟩ := hI117
    have hL127 : Lim W H ((ac.params.take k).foldl (fun T n => modeT T n ((ac.last : Int) == 104)) T) := (lim_modes hL _ _)
    generalize hE127 : ((ac.params.take k).foldl (fun T n => modeT T n ((ac.last : Int) == 104)) T) = T127 at hN120 hL127
    have hM127 := hL127
    obtain ⟨⟨hwa127, hwb127⟩, ⟨hha127, hhb127⟩, ⟨hgw127, hgh127⟩, ⟨how127, hoh127⟩, ⟨⟨hcx127, hcX127⟩, hcy127, hcY127⟩, ⟨⟨hsx127, hsX127⟩, hsy127, hsY127⟩, ⟨⟨hax127, haX127⟩, hay127, haY127⟩, ⟨htp127, htb127, hbh127⟩, hbk127, hrp127⟩ := hM127
    obtain ⟨g127, o127, ba127, bn127, bc127, pa127, pn127, pc127, F1127, F2127, FB127, FP127, hI126⟩ := hN120
    obtain ⟨gv127, hgd128⟩ := hI126.g1.head
    have htg129 : Df t g127 := fun e => hI126.t1 (e ▸ hI126.g1.inF)
    refine ysr <| yp 1 [] .z <| ye <| ys <| yc (rL ((k : Nat) : Int) ((an : Nat) : Int)) (fun hC130 => ?_) fun hC130 => ?_
    ·exfalso; omega
    have hkn : k = ac.params.length := by omega
    refine x_exit (eS (then_exit (block_exit (nB (yR0' ?_)))))
    have hX131 : Ch F w10 w116 := Ch.trans hX121 (Ch.refl (fun j => j = t) w116) (fun i _ h => h ▸ hFt)
    have hA132 : TermAt w116 t T127 (more F w10 w116) := ⟨_, _, _, _, _, _, _, _, _, _, _, _, hI126.mono (fun b hb => hb.elim .inl (fun h2 => .inr ⟨h2.1, by have := Ch.size (Ch.refl (fun j => j = t) w116); omega⟩)) (hI110.moreOk hX131.size)⟩
    subst hE127
    subst hkn
    refine ⟨rfl, TermAt.eq' (hA132.mono (more_le hpre112.size) (hI.moreOk (Nat.le_trans hpre112.size hX131.size))) ?_, Ch.trans hpre112 hX131 iZ⟩
    simp only [csiT, List.take_length, hpp0, hpp1, eq_false hpp2, hpp3, ↓reduceIte, Int.reduceEq, Bool.false_eq_true, and_true, true_and, or_true, true_or, or_false, false_or]
   have hnl : ac.params.length = an := hV.2.1
   have hI133 := hI.scalar (T' := T) hS17 ht19 rfl rfl rfl rfl
   have hA134 : TermAt w10 t T F := ⟨_, _, _, _, _, _, _, _, _, _, _, _, hI133⟩
   have hpre135 : Ch F w w10 := hS17.mono (fun i _ h => h ▸ hFt)
   have hly136 := hB14.lt
   have hX137 : Ch F w10 w10 := Ch.trans (Ch.refl F w10) (Ch.refl (fun j => j = t) w10) (fun i _ h => h ▸ hFt)
   have hA138 : TermAt w10 t T (more F w10 w10) := ⟨_, _, _, _, _, _, _, _, _, _, _, _, hI133.mono (fun _ h => .inl h) (hI133.moreOk hX137.size)⟩
   refine ykeep [0, 3, 28, 29, 30] (f' := [(0, pX t), (3, pX b11), (28, .slice (some ⟨ab, 0, none⟩) an cc), (29, iX ((an : Nat) : Int)), (30, iX 0)]) <| x_loop (σ := Nat) (fun k => [(0, pX t), (3, pX b11), (28, .slice (some ⟨ab, 0, none⟩) an cc), (29, iX ((an : Nat) : Int)), (30, iX ((k : Nat) : Int))]) (fun k u => k ≤ an ∧ (TermAt u t ((ac.params.take k).foldl (fun T n => modeT T n ((ac.last : Int) == 104)) T) (more F w10 u) ∧ Ch F w10 u)) (fun k => an - k) 0 rfl ?_ ?_
   ·exact ⟨Nat.zero_le _, (TermAt.eq' hA138 rfl), hX137⟩
   intro k w139 hI140 K141 hL142
   obtain ⟨hk, hN143, hX144⟩ := hI140
   have hT146 := lt_ch hX144 hT21 (fun b hb => hI133.hi b hb)
   have hV147 := hV22.ch hX144 (fun b hb h => hb.1 h)
   have hB148 := hB14.ch hX144 (fun h => by have := hI.lt _ h; omega)
   have hL150 : Lim W H ((ac.params.take k).foldl (fun T n => modeT T n ((ac.last : Int) == 104)) T) := (lim_modes hL _ _)
   generalize hE150 : ((ac.params.take k).foldl (fun T n => modeT T n ((ac.last : Int) == 104)) T) = T150 at hN143 hL150
   have hM150 := hL150
   obtain ⟨⟨hwa150, hwb150⟩, ⟨hha150, hhb150⟩, ⟨hgw150, hgh150⟩, ⟨how150, hoh150⟩, ⟨⟨hcx150, hcX150⟩, hcy150, hcY150⟩, ⟨⟨hsx150, hsX150⟩, hsy150, hsY150⟩, ⟨⟨hax150, haX150⟩, hay150, haY150⟩, ⟨htp150, htb150, hbh150⟩, hbk150, hrp150⟩ := hM150
   obtain ⟨g150, o150, ba150, bn150, bc150, pa150, pn150, pc150, F1150, F2150, FB150, FP150, hI149⟩ := hN143
   obtain ⟨gv150, hgd151⟩ := hI149.g1.head
   have htg152 : Df t g150 := fun e => hI149.t1 (e ▸ hI149.g1.inF)
   refine ysr <| yp 1 [] .z <| ye <| ys <| yc (rL ((k : Nat) : Int) ((an : Nat) : Int)) (fun hC153 => ?_) fun hC153 => ?_
   ·refine yk <| ys <| x_block <| ysr <| yp 3 [] (.i ((k : Nat) : Int) (an) (.l (o := (0 + (((k : Nat) : Int)).toNat * 1)) (ints_cell hV147.1 k (by omega)) .z)) <| ye <| x_region <| yp 5 [] (.l (hB148.c 2) .z) ?_
    have hX154 : Ch F w10 w139 := Ch.trans hX144 (Ch.refl (fun j => j = t) w139) (fun i _ h => h ▸ hFt)
    have hA155 : TermAt w139 t T150 (more F w10 w139) := ⟨_, _, _, _, _, _, _, _, _, _, _, _, hI149.mono (fun b hb => hb.elim .inl (fun h2 => .inr ⟨h2.1, by have := Ch.size (Ch.refl (fun j => j = t) w139); omega⟩)) (hI133.moreOk hX154.size)⟩
    refine yo (yQ (mode_at hA155 hT146 hL150  ((ac.params.getD k 0)) ((ac.last : Int) == 104)) ?_)
    rintro w161 ⟨hB156, hc157⟩
    obtain ⟨hN158, hX159⟩ := TermAt.next hA134 hX154 hc157 hB156
    have hL165 : Lim W H (modeT T150 ((ac.params.getD k 0)) ((ac.last : Int) == 104)) := (lim_mode hL150 _ _)
    generalize hE165 : (modeT T150 ((ac.params.getD k 0)) ((ac.last : Int) == 104)) = T165 at hN158 hL165
    have hM165 := hL165
    obtain ⟨⟨hwa165, hwb165⟩, ⟨hha165, hhb165⟩, ⟨hgw165, hgh165⟩, ⟨how165, hoh165⟩, ⟨⟨hcx165, hcX165⟩, hcy165, hcY165⟩, ⟨⟨hsx165, hsX165⟩, hsy165, hsY165⟩, ⟨⟨hax165, haX165⟩, hay165, haY165⟩, ⟨htp165, htb165, hbh165⟩, hbk165, hrp165⟩ := hM165
    obtain ⟨g165, o165, ba165, bn165, bc165, pa165, pn165, pc165, F1165, F2165, FB165, FP165, hI160⟩ := hN158
    obtain ⟨gv165, hgd166⟩ := hI160.g1.head
    have htg167 : Df t g165 := fun e => hI160.t1 (e ▸ hI160.g1.inF)
    refine yE (nB (nS ?_))
    refine x_region <| yp 2 [] (.q6 (((k : Nat) : Int) + 1) .z) ?_
    have hX168 : Ch F w10 w161 := Ch.trans hX159 (Ch.refl (fun j => j = t) w161) (fun i _ h => h ▸ hFt)
    have hA169 : TermAt w161 t T165 (more F w10 w161) := ⟨_, _, _, _, _, _, _, _, _, _, _, _, hI160.mono (fun b hb => hb.elim .inl (fun h2 => .inr ⟨h2.1, by have := Ch.size (Ch.refl (fun j => j = t) w161); omega⟩)) (hI133.moreOk hX168.size)⟩
    refine yE (fun a ha => hL142 (k + 1) _ ⟨(by omega), (TermAt.eq' hA169 (by subst hE165; subst hE150; exact modes_next _ _ _ (by omega))), hX168⟩ (by show an - (k + 1) < an - k; omega) a (ha.kp [0, 3, 28, 29, 30]))
   have hkn : k = ac.params.length := by omega
   refine x_exit (eS (then_exit (block_exit (nB (yR0' ?_)))))
   have hX170 : Ch F w10 w139 := Ch.trans hX144 (Ch.refl (fun j => j = t) w139) (fun i _ h => h ▸ hFt)
   have hA171 : TermAt w139 t T150 (more F w10 w139) := ⟨_, _, _, _, _, _, _, _, _, _, _, _, hI149.mono (fun b hb => hb.elim .inl (fun h2 => .inr ⟨h2.1, by have := Ch.size (Ch.refl (fun j => j = t) w139); omega⟩)) (hI133.moreOk hX170.size)⟩
   subst hE150
   subst hkn
   refine ⟨rfl, TermAt.eq' (hA171.mono (more_le hpre135.size) (hI.moreOk (Nat.le_trans hpre135.size hX170.size))) ?_, Ch.trans hpre135 hX170 iZ⟩
   simp only [csiT, List.take_length, hpp0, hpp1, eq_false hpp2, hpp3, ↓reduceIte, Int.reduceEq, Bool.false_eq_true, and_true, true_and, or_true, true_or, or_false, false_or]
  have hpp3 := hC109
  refine x_skip (nB (yR0' ?_))
  have hI172 := hI.scalar (T' := T) hS17 ht19 rfl rfl rfl rfl
  have hX173 : Ch F w w10 := Ch.trans (Ch.refl F w) hS17 (fun i _ h => h ▸ hFt)
  have hA174 : TermAt w10 t T (more F w w10) := ⟨_, _, _, _, _, _, _, _, _, _, _, _, hI172.mono (fun _ h => .inl h) (hI.moreOk hX173.size)⟩
  refine ⟨rfl, TermAt.eq' hA174 ?_, hX173⟩
  simp only [csiT, hpp0, hpp1, eq_false hpp2, eq_false hpp3, ↓reduceIte, Int.reduceEq, Int.reduceLT, Int.reduceLE, Bool.and_true, Bool.true_and, Bool.and_false, Bool.false_and, Bool.false_eq_true, Bool.true_eq_false, and_true, true_and, and_false, false_and, or_true, true_or, or_false, false_or]
 have hpp1 := hC45
 refine yp 14 [] .z <| ye <| ycf <| x_skip (nB (yR0' ?_))
 have hI175 := hI.scalar (T' := T) hS17 ht19 rfl rfl rfl rfl
 have hX176 : Ch F w w10 := Ch.trans (Ch.refl F w) hS17 (fun i _ h => h ▸ hFt)
 have hA177 : TermAt w10 t T (more F w w10) := ⟨_, _, _, _, _, _, _, _, _, _, _, _, hI175.mono (fun _ h => .inl h) (hI.moreOk hX176.size)⟩
 refine ⟨rfl, TermAt.eq' hA177 ?_, hX176⟩
 simp only [csiT, hpp0, hpp1, ↓reduceIte, Int.reduceEq, Int.reduceLT, Int.reduceLE, Bool.and_true, Bool.true_and, Bool.and_false, Bool.false_and, Bool.false_eq_true, Bool.true_eq_false, and_true, true_and, and_false, false_and, or_true, true_or, or_false, false_or]
end Go.Proofs.YteoejhjfbfacdaaDoor.X
namespace Go.Proofs.YteoejhjfbfacdaaDoor.X
open Go Go.RowKit Go.Proofs.YteoejhjfbfacdaaDoor
def TS.valsG (t : TS) (v0 v1 bk ps : Value) : List Value := v0 :: v1 :: (t.vals 0 0 bk ps).drop 2
theorem valsG_eq (t : TS) (g o : Nat) (bk ps : Value) : t.valsG (.pointer (some ⟨g, 0, none⟩)) (.pointer (some ⟨o, 0, none⟩)) bk ps = t.vals g o bk ps := by kernel_rfl
def startK (T : TS) (G : Gr) (b : Int) (k : Nat) : TS :=
 {grid := G, other := G, cursor := cur0, saved := cur0, away := cur0, top := 0, bot := b, tabs := tabs0 k, wrap := true, origin := false, insert := false, hidden := false, draw0 := false, draw1 := false, shift := false, alt := false, title := ByteArray.empty, back := [], parser := T.parser, reply := T.reply }
def start0 (T : TS) (G : Gr) : TS :=
 {grid := G, other := G, cursor := cur0, saved := cur0, away := cur0, top := 0, bot := 0, tabs := fun _ => false, wrap := true, origin := false, insert := false, hidden := false, draw0 := false, draw1 := false, shift := false, alt := false, title := ByteArray.empty, back := [], parser := T.parser, reply := T.reply }
theorem tabs0_0 : tabs0 0 = fun _ => false := by
 funext i
 unfold tabs0
 exact decide_eq_false (by omega)
theorem tabs0_next (k : Nat) : tabs0 (k + 1) = fun i => if i = (8 + 8 * ((k : Nat) : Int)).toNat then true else tabs0 k i := by
 funext i
 unfold tabs0
 by_cases h : i = (8 + 8 * ((k : Nat) : Int)).toNat
 ·rw [if_pos h]; exact decide_eq_true (by omega)
 ·rw [if_neg h]
  by_cases h2 : i % 8 = 0 ∧ 8 ≤ i ∧ i < 8 + 8 * k
  ·rw [decide_eq_true h2]; exact decide_eq_true (by omega)
  ·rw [decide_eq_false h2]; exact decide_eq_false (by omega)
theorem lim_startK (T : TS) (p1 p2 b : Int) (k : Nat) (hr : T.reply.size ≤ 400) (hb : b = sideI p2) : Lim (sideI p1) (sideI p2) (startK T (newG p1 p2) b k) := by
 subst hb
 exact (lim_start T p1 p2 hr).flags rfl rfl rfl rfl rfl rfl rfl rfl rfl
def PsAt (w : World) (t : Nat) (pa : Option Addr) (pn pc : Nat) (l : List Int) (FP : Nat → Prop) : Prop :=
 (Rd w pa (l.map (Value.int .i64)) ∧ l.length = pn ∧ (pa = none → pc = 0) ∧ ∀ ad, pa = some ad → FP ad.block) ∧ (∃ po : Option Nat, pa = po.map at0) ∧ ∀ b, FP b → b < w.heap.size ∧ gTop ≤ b ∧ b ≠ t
theorem start_in {w w1 w2 : World} {t g o : Nat} {pa : Option Addr} {pn pc : Nat} {T T0 : TS} {F1 F2 FP F : Nat → Prop} {G : Gr} (hP : PsAt w t pa pn pc T.parser.params FP) (ht : t < w.heap.size) (ht7 : gTop ≤ t) (hp : T0.parser.params = T.parser.params) (hk : T0.back = []) (hg : T0.grid = G) (ho : T0.other = G)
  (c1 : Ch (fun j => j = t) w w1) (s1 : ∀ b, F1 b → w.heap.size ≤ b ∧ b < w2.heap.size) (s2 : ∀ b, F2 b → w2.heap.size ≤ b) (c12 : w.heap.size ≤ w2.heap.size)
  (h1 : GridAt w1 g G F1) (h2 : GridAt w1 o G F2) (hb : Blk w1 t (T0.vals g o (.slice none 0 0) (.slice pa pn pc)) tTerm) (hF : F = fun b => b = t ∨ FP b ∨ (w.heap.size ≤ b ∧ b < w1.heap.size)) :
  TermIn w1 t g o none 0 0 pa pn pc T0 F F1 F2 (fun _ => False) FP := by
 obtain ⟨hP, hz, hf⟩ := hP
 subst hF
 exact
 {blk := hb
  g1 := by rw [hg]; exact h1
  g2 := by rw [ho]; exact h2
  bk := ⟨[], ⟨Rd.nil _ _, rfl, (fun x hx => by cases hx), (fun x hx => by cases hx), (fun ad e => by cases e), (fun b hb => hb.elim), fun b hb => hb.elim⟩, hk.symm⟩
  bcap := ⟨Nat.le_refl _, fun _ => rfl⟩
  ps := by rw [hp]; exact ⟨hP.1.ch c1 fun ad e e2 => (hf _ (hP.2.2.2 ad e)).2.2 e2, hP.2⟩
  pz := hz
  bz := .inl rfl
  t1 := fun h => by have := (s1 t h).1; omega
  t2 := fun h => by have := s2 t h; omega
  tB := fun h => h
  tP := fun h => (hf t h).2.2 rfl
  a12 := fun b x y => by have := s1 b x; have := s2 b y; omega
  a1B := fun b _ h => h
  a2B := fun b _ h => h
  a1P := fun b x y => by have := s1 b x; have := hf b y; omega
  a2P := fun b x y => by have := s2 b x; have := hf b y; omega
  inF := ⟨.inl rfl, fun b h => .inr (.inr ⟨(s1 b h).1, h1.lt b h⟩), fun b h => .inr (.inr ⟨by have := s2 b h; omega, h2.lt b h⟩), fun b h => h.elim, fun b h => .inr (.inl h)⟩
  lt := fun b h => h.elim (fun h => h ▸ hb.lt) fun h => h.elim (fun h => by have := hf b h; have := c1.size; omega) fun h => h.2
  hi := fun b h => h.elim (fun h => h ▸ ht7) fun h => h.elim (fun h => (hf b h).2.1) fun h => by omega }
end Go.Proofs.YteoejhjfbfacdaaDoor.X
namespace Go.Proofs.YteoejhjfbfacdaaDoor.X
open Go Go.RowKit Go.Proofs.YteoejhjfbfacdaaDoor
set_option maxHeartbeats 4000000 in
theorem start_any {w : World} {t : Nat} {v0 v1 bk : Value} {pa : Option Addr} {pn pc : Nat} {T : TS} {FP : Nat → Prop} (hB0 : Blk w t (T.valsG v0 v1 bk (.slice pa pn pc)) tTerm) (hP : PsAt w t pa pn pc T.parser.params FP) (ht7 : gTop ≤ t) (hT : LT w) (hr : T.reply.size ≤ 400) (p1 p2 : Int) : Calls Tryd.prog 24 [.pointer (some ⟨t, 0, none⟩), .int .i64 p1, .int .i64 p2].toArray w fun e w' =>
    e = .returned (.tuple #[]) ∧ TermAt w' t (startT T p1 p2) (fun b => b = t ∨ FP b ∨ (w.heap.size ≤ b ∧ b < w'.heap.size)) ∧ Ch (fun b => b = t ∨ FP b) w w' := by
  have ht := hB0.lt
  have hs1 : 1 ≤ sideI p1 ∧ sideI p1 ≤ 60 := by unfold sideI; omega
  have hs2 : 1 ≤ sideI p2 ∧ sideI p2 ≤ 60 := by unfold sideI; omega
  refine yA Tryd.func24 rfl ?_
  refine ys ?_
  refine yDC [17] fun w10 hH11 hc12 => ?_
  have hS13 := Ch.trans (Ch.refl (fun j => j = t) w) hc12 eZ
  have ht15 := hB0.ch hc12 id
  have hT16 := lt_ch hc12 hT (fun _ h => h.elim)
  refine ydC [0, 1, 2, 4, 5, 7, 8, 9, 10, 11, 12, 13, 14] [] (fun u hu => (.a (cellsC_ch hu (ht15.cs 98 9) id) (.l (cell_ch hu (ht15.c 107) id) .z))) ?_
  refine yH 3 (yC (new_any p1 p2 _ hT16.tb (by have := ht; have := Ch.size hS13; omega)) ?_)
  rintro _ w22 ⟨g17, F18, rfl, hG19, hlo20, hc21⟩
  refine ⟨_, rfl, ?_⟩
  have hlo20w : ∀ b, F18 b → w.heap.size ≤ b := fun b hb => Nat.le_trans (Ch.size hS13) (hlo20 b hb)
  have hS23 := Ch.trans hS13 hc21 eZ
  have ht25 := ht15.ch hc21 id
  have hT26 := lt_ch hc21 hT16 (fun _ h => h.elim)
  refine x_heldC hc21 ?_
  have hG1lt := hG19.lt
  have hszc2 := Ch.size hS23
  refine yH 6 (yC (new_any p1 p2 _ hT26.tb (by have := ht; have := Ch.size hS23; omega)) ?_)
  rintro _ w32 ⟨g27, F28, rfl, hG29, hlo30, hc31⟩
  refine ⟨_, rfl, ?_⟩
  have hlo30w : ∀ b, F28 b → w.heap.size ≤ b := fun b hb => Nat.le_trans (Ch.size hS23) (hlo30 b hb)
  have hS33 := Ch.trans hS23 hc31 eZ
  have ht35 := ht25.ch hc31 id
  have hG37 := hG19.ch hc31 iZ
  refine x_heldC hc31 ?_
  refine ydC [15, 16] [] (fun u hu => .z) ?_
  refine yK 17 (e_store 0 [pX g17, pX g27, iX 0, iX 0, .bool false, .bool false, .bool false, .bool false, iX 0, iX 0, iX 0, iX 0, .bool false, .bool false, .bool false, .bool false, iX 0, iX 0, iX 0, iX 0, .bool false, .bool false, .bool false, .bool false, iX 0, iX 0, iX 0, iX 0, .bool false, .bool false, .bool false, .bool false, .bool false, .bool false, .bool false, .bool false, .bool false, .bool false, .bool false, .bool false, .bool false, .bool false, .bool false, .bool false, .bool false, .bool false, .bool false, .bool false, .bool false, .bool false, .bool false, .bool false, .bool false, .bool false, .bool false, .bool false, .bool false, .bool false, .bool false, .bool false, .bool false, .bool false, .bool false, .bool false, .bool false, .bool false, .bool false, .bool false, .bool false, .bool false, .bool false, .bool false, .bool false, .bool false, .bool false, .bool false, .bool false, .bool false, .bool false, .bool false, .bool false, .bool false, .bool false, .bool false, .bool false, .bool false, .bool false, .bool false, .bool true, .bool false, .bool false, .bool false, .bool false, .bool false, .bool false, .bool false, .string ByteArray.empty, .slice none 0 0, iX T.parser.state, uX T.parser.utf.b0, uX T.parser.utf.b1, uX T.parser.utf.b2, iX T.parser.utf.n, .string T.parser.marks, .slice pa pn pc, .string T.parser.text, iX T.parser.within, .string T.reply] none (by kernel_rfl) ht35 (of_ble (by kernel_rfl)) ?_)
  intro w38 hB39 hc40
  replace hB39 : Blk w38 t (TS.vals (start0 T (newG p1 p2)) g17 g27 (.slice none 0 0) (.slice pa pn pc)) tTerm := Blk.to hB39 (by kernel_rfl)
  have hS41 := Ch.trans hS33 hc40 (fun i hi (h : i = t) => h)
  have hG43 := hG37.ch hc40 (fun b hb (h : b = t) => by have := hlo20w b hb; omega)
  have hG44 := hG29.ch hc40 (fun b hb (h : b = t) => by have := hlo30w b hb; omega)
  obtain ⟨F, hFd⟩ : ∃ F : Nat → Prop, F = fun b => b = t ∨ FP b ∨ (w.heap.size ≤ b ∧ b < w38.heap.size) := ⟨_, rfl⟩
  have hs12 : ∀ b, F18 b → w.heap.size ≤ b ∧ b < w22.heap.size := fun b hb => ⟨hlo20w b hb, hG1lt b hb⟩
  have hI : TermIn w38 t g17 g27 none 0 0 pa pn pc (start0 T (newG p1 p2)) F F18 F28 (fun _ => False) FP := start_in (T := T) (w2 := w22) hP ht ht7 rfl rfl rfl rfl hS41 hs12 hlo30 hszc2 hG43 hG44 hB39 hFd
  have hFt : F t := hI.inF.1
  have hA0 : TermAt w38 t (start0 T (newG p1 p2)) F := ⟨_, _, _, _, _, _, _, _, _, _, _, _, hI⟩
  have hpre := hS41
  have hlt1 := hI.blk.lt
  obtain ⟨W, hW⟩ : ∃ W, W = sideI p1 := ⟨_, rfl⟩
  obtain ⟨H, hH⟩ : ∃ H, H = sideI p2 := ⟨_, rfl⟩
  obtain ⟨gv45, hgd45⟩ := hI.g1.head
  have htg45 : Df t g17 := fun e => hI.t1 (e ▸ hI.g1.inF)
  refine x_killed ?_
  refine yDe (nS ?_)
  refine ysr ?_
  refine yp 10 [] (.l (hB39.c 0) (.l (hgd45.c 1) .z)) ?_
  refine yo (e_store 27 [iX (newG p1 p2).h] none (by kernel_rfl) hB39 (of_ble (by kernel_rfl)) ?_)
  intro w46 hB47 hc48
  replace hB47 : Blk w46 t (TS.vals ({ (start0 T (newG p1 p2)) with bot := (newG p1 p2).h } : TS) g17 g27 (.slice none 0 0) (.slice pa pn pc)) tTerm := Blk.to hB47 (by kernel_rfl)
  have hS50 := Ch.trans (Ch.refl (fun j => j = t) w38) hc48 (fun i hi (h : i = t) => h)
  refine ye ?_
  refine ysr ?_
  refine yp 1 [] .z ?_
  refine ye ?_
  refine x_block ?_
  have hI53 := hI.scalar (T' := ({ (start0 T (newG p1 p2)) with bot := (newG p1 p2).h } : TS)) hS50 hB47 rfl rfl rfl rfl
  have hX54 : Ch F w38 w46 := Ch.trans (Ch.refl F w38) hS50 (fun i _ h => h ▸ hFt)
  have hA55 : TermAt w46 t ({ (start0 T (newG p1 p2)) with bot := (newG p1 p2).h } : TS) (more F w38 w46) := ⟨_, _, _, _, _, _, _, _, _, _, _, _, hI53.mono (fun _ h => .inl h) (hI.moreOk hX54.size)⟩
  refine ykeep [0, 6] (f' := [(0, pX t), (6, iX 8)]) ?_
  refine x_loop (σ := Nat) (fun k => [(0, pX t), (6, iX (8 + 8 * ((k : Nat) : Int)))]) (fun k u => k ≤ 7 ∧ (TermAt u t (startK T (newG p1 p2) H k) (more F w38 u) ∧ Ch F w38 u)) (fun k => 7 - k) 0 rfl ?_ ?_
  · exact ⟨(by omega), (TermAt.eq' hA55 (by subst hH; show startK T (newG p1 p2) (sideI p2) 0 = _; unfold startK; rw [tabs0_0]; rfl)), hX54⟩
  · intro k w56 hI57 K58 hL59
    obtain ⟨hk, hN60, hX61⟩ := hI57
    have hL65 : Lim W H (startK T (newG p1 p2) H k) := (hW ▸ hH ▸ lim_startK T p1 p2 (sideI p2) k hr rfl)
    generalize hE65 : (startK T (newG p1 p2) H k) = T65 at hN60 hL65
    have hM65 := hL65
    obtain ⟨⟨hwa65, hwb65⟩, ⟨hha65, hhb65⟩, ⟨hgw65, hgh65⟩, ⟨how65, hoh65⟩, ⟨⟨hcx65, hcX65⟩, hcy65, hcY65⟩, ⟨⟨hsx65, hsX65⟩, hsy65, hsY65⟩, ⟨⟨hax65, haX65⟩, hay65, haY65⟩, ⟨htp65, htb65, hbh65⟩, hbk65, hrp65⟩ := hM65
    obtain ⟨g65, o65, ba65, bn65, bc65, pa65, pn65, pc65, F165, F265, FB65, FP65, hI64⟩ := hN60
    obtain ⟨gv65, hgd66⟩ := hI64.g1.head
    have htg67 : Df t g65 := fun e => hI64.t1 (e ▸ hI64.g1.inF)
    refine ys ?_
    refine ysr ?_
    refine yp 2 [] .z ?_
    refine ye ?_
    refine yc (rL (8 + 8 * ((k : Nat) : Int)) 60) (fun hC68 => ?_) fun hC68 => ?_
    · refine yk ?_
      refine ys ?_
      refine x_block ?_
      refine x_region ?_
      refine yp 5 [] (.i (8 + 8 * ((k : Nat) : Int)) (60) .z) ?_
      refine yo (e_store (28 + ((8 + 8 * ((k : Nat) : Int)) : Int).toNat * 1) [.bool true] none (by kernel_rfl) hI64.blk (by rw [tvals_len]; simp only [List.length_cons, List.length_nil]; omega) ?_)
      intro w69 hB70 hc71
      replace hB70 : Blk w69 t (TS.vals ({ T65 with tabs := (fun i => if i = ((8 + 8 * ((k : Nat) : Int)) : Int).toNat then true else T65.tabs i) } : TS) g65 o65 (.slice ba65 bn65 bc65) (.slice pa65 pn65 pc65)) tTerm := Blk.to hB70 (tabs_put T65 _ _ _ _ _ (by omega) _)
      have hS72 := Ch.trans (Ch.refl (fun j => j = t) w56) hc71 (fun i hi (h : i = t) => h)
      refine yE (nB (nS ?_))
      refine x_region ?_
      refine yp 3 [] (.q6 ((8 + 8 * ((k : Nat) : Int)) + 8) .z) ?_
      have hI75 := hI64.scalar (T' := ({ T65 with tabs := (fun i => if i = ((8 + 8 * ((k : Nat) : Int)) : Int).toNat then true else T65.tabs i) } : TS)) hS72 hB70 rfl rfl rfl rfl
      have hX76 : Ch F w38 w69 := Ch.trans hX61 hS72 (fun i _ h => h ▸ hFt)
      have hA77 : TermAt w69 t ({ T65 with tabs := (fun i => if i = ((8 + 8 * ((k : Nat) : Int)) : Int).toNat then true else T65.tabs i) } : TS) (more F w38 w69) := ⟨_, _, _, _, _, _, _, _, _, _, _, _, hI75.mono (fun b hb => hb.elim .inl (fun h2 => .inr ⟨h2.1, by have := Ch.size hS72; omega⟩)) (hI.moreOk hX76.size)⟩
      refine yE (fun a ha => hL59 (k + 1) _ ⟨(by omega), (TermAt.eq' hA77 (by subst hE65; show startK T (newG p1 p2) H (k + 1) = _; unfold startK; rw [tabs0_next])), hX76⟩ (by show 7 - (k + 1) < 7 - k; omega) a (by rw [show (8 + 8 * ((k + 1 : Nat) : Int)) = (8 + 8 * ((k : Nat) : Int)) + 8 by omega]; exact ha.kp [0, 6]))
    · have hk7 : k = 7 := by omega
      refine x_exit (eS (then_exit (block_exit (yR0' ?_))))
      have hX78 : Ch F w38 w56 := Ch.trans hX61 (Ch.refl (fun j => j = t) w56) (fun i _ h => h ▸ hFt)
      have hA79 : TermAt w56 t T65 (more F w38 w56) := ⟨_, _, _, _, _, _, _, _, _, _, _, _, hI64.mono (fun b hb => hb.elim .inl (fun h2 => .inr ⟨h2.1, by have := Ch.size (Ch.refl (fun j => j = t) w56); omega⟩)) (hI.moreOk hX78.size)⟩
      subst hE65
      subst hk7 hH hW
      refine ⟨rfl, TermAt.mono hA79 (fun b hb => ?_) (fun b hb => ?_), ?_⟩
      · rcases hb with hb | hb
        · rw [hFd] at hb
          exact hb.imp id fun h => h.imp id fun h => ⟨h.1, by have := Ch.size hX78; omega⟩
        · exact .inr (.inr ⟨by have := Ch.size hpre; omega, hb.2⟩)
      · have hz := Ch.size hX78
        have hz2 := Ch.size hpre
        rcases hb with rfl | hb | hb
        · exact ⟨by omega, ht7⟩
        · have := hP.2.2 b hb; exact ⟨by omega, this.2.1⟩
        · exact ⟨hb.2, by omega⟩
      · refine Ch.trans (hpre.mono fun i _ h => .inl h) hX78 fun i hi h => ?_
        rw [hFd] at h
        exact h.imp id fun h => h.elim id fun h => by omega
end Go.Proofs.YteoejhjfbfacdaaDoor.X
namespace Go.Proofs.YteoejhjfbfacdaaDoor.X
open Go Go.RowKit Go.Proofs.YteoejhjfbfacdaaDoor
theorem str_eq {s u : ByteArray} (h : (s.toList == u.toList) = true) : s = u := by
 have h1 := eq_of_beq h
 rw [Go.ByteArray.toList_eq, Go.ByteArray.toList_eq] at h1
 obtain ⟨⟨a⟩⟩ := s
 obtain ⟨⟨b⟩⟩ := u
 have : a = b := h1
 rw [this]
theorem mark40 {s : ByteArray} (h : (s.toList == (⟨#[40]⟩ : ByteArray).toList) = true) : s.size = 1 ∧ bt s 0 = 40 := by
 rw [str_eq h]; exact ⟨rfl, rfl⟩
theorem mark41 {s : ByteArray} (h : (s.toList == (⟨#[41]⟩ : ByteArray).toList) = true) : s.size = 1 ∧ bt s 0 = 41 := by
 rw [str_eq h]; exact ⟨rfl, rfl⟩
theorem start_at {w : World} {t : Nat} {W H : Int} {T : TS} {F : Nat → Prop} (hA : TermAt w t T F) (hT : LT w) (hL : Lim W H T) (p1 p2 : Int) :
  Calls Tryd.prog 24 [.pointer (some ⟨t, 0, none⟩), .int .i64 p1, .int .i64 p2].toArray w fun e w' => e = .returned (.tuple #[]) ∧ TermAt w' t (startT T p1 p2) (more F w w') ∧ Ch F w w' := by
 obtain ⟨g, o, ba, bn, bc, pa, pn, pc, F1, F2, FB, FP, hI⟩ := hA
 have hB : Blk w t (T.valsG (.pointer (some ⟨g, 0, none⟩)) (.pointer (some ⟨o, 0, none⟩)) (.slice ba bn bc) (.slice pa pn pc)) tTerm := by rw [valsG_eq]; exact hI.blk
 have hF : ∀ b, (b = t ∨ FP b) → F b := fun b h => h.elim (fun h => h ▸ hI.inF.1) (hI.inF.2.2.2.2 b)
 refine (start_any hB ⟨hI.ps, hI.pz, fun b hb => ⟨hI.lt b (hF b (.inr hb)), hI.hi b (hF b (.inr hb)), fun e => hI.tP (e ▸ hb)⟩⟩ (hI.hi t hI.inF.1) hT hL.rp p1 p2).mono fun e w' ⟨he, hA', hc⟩ => ⟨he, hA'.mono (fun b hb => ?_) (hI.moreOk hc.size), hc.mono fun b _ h => hF b h⟩
 rcases hb with hb | hb | hb
 ·exact .inl (hF b (.inl hb))
 ·exact .inl (hF b (.inr hb))
 ·exact .inr hb
theorem lim_start' {W H : Int} {T : TS} (h : Lim W H T) : Lim W H (startT T T.grid.w T.grid.h) := by
 have := lim_start T T.grid.w T.grid.h h.rp
 rw [h.g1.1, h.g1.2, sideI_id h.wb, sideI_id h.hb] at this
 rw [h.g1.1, h.g1.2]; exact this
end Go.Proofs.YteoejhjfbfacdaaDoor.X
namespace Go.Proofs.YteoejhjfbfacdaaDoor.X
open Go Go.RowKit Go.Proofs.YteoejhjfbfacdaaDoor
theorem up_lim {w : World} {t : Nat} {W H : Int} {T : TS} {F : Nat → Prop} (hA : TermAt w t T F) (hT : Tables w) (hL : Lim W H T) : Calls Tryd.prog 60 [.pointer (some ⟨t, 0, none⟩)].toArray w fun e w' => e = .returned (.tuple #[]) ∧ TermAt w' t (upT T) (more F w w') ∧ Ch F w w' :=
  up_at hA hT (by have := hL.cu; have := hL.hb; omega)
set_option maxHeartbeats 4000000 in
theorem esc_at {w : World} {t : Nat} {W H : Int} {T : TS} {F : Nat → Prop} (hA0 : TermAt w t T F) (hT : LT w) (hL : Lim W H T) {ao : Option Nat} {an cc : Nat} {ac : Ac} (hV : IntsAt w .i64 ao an cc ac.params (fun b => ¬ F b ∧ b < w.heap.size)) (hV8 : an ≤ 8) (hVb : ∀ x ∈ ac.params, 0 ≤ x ∧ x ≤ 9999) : Calls Tryd.prog 44 [.pointer (some ⟨t, 0, none⟩), .agg #[.int .i64 ac.kind, .int .i32 ac.rune, .int .u8 ac.last, .string ac.marks, .slice (ao.map at0) an cc, .string ac.text]].toArray w fun e w' => e = .returned (.tuple #[]) ∧ TermAt w' t (escT T ac) (more F w w') ∧ Ch F w w' := by
 obtain ⟨g, o, ba, bn, bc, pa, pn, pc, F1, F2, FB, FP, hI⟩ := hA0
 have hA0 : TermAt w t T F := ⟨g, o, ba, bn, bc, pa, pn, pc, F1, F2, FB, FP, hI⟩
 have hFt := hI.inF.1
 obtain ⟨gv, hgd⟩ := hI.g1.head
 have htg : Df t g := fun e => hI.t1 (e ▸ hI.g1.inF)
 obtain ⟨⟨hw1, hw2⟩, ⟨hh1, hh2⟩, hll, hall⟩ := hI.g1.ok
 have hL0 := hL
 obtain ⟨⟨hwa, hwb⟩, ⟨hha, hhb⟩, ⟨hgw, hgh⟩, ⟨how, hoh⟩, ⟨⟨hcx, hcX⟩, hcy, hcY⟩, ⟨⟨hsx, hsX⟩, hsy, hsY⟩, ⟨⟨hax, haX⟩, hay, haY⟩, ⟨htp, htb, hbh⟩, hbk, hrp⟩ := hL0
 refine yA Tryd.func44 rfl <| ysr <| yo (yN [iX ac.kind, rX ac.rune, uX ac.last, .string ac.marks, .slice (ao.map at0) an cc, .string ac.text] 73 fun w10 b11 hb12 hz13 hB14 hc15 => ?_)
 have hlo16 : w.heap.size ≤ b11 := by rw [hb12]; exact Ch.size (Ch.refl (fun j => j = t) w)
 have hS17 := Ch.trans (Ch.refl (fun j => j = t) w) hc15 eZ
 have ht19 := hI.blk.ch hc15 id
 have hg20 := hgd.ch hc15 id
 have hT21 := lt_ch hc15 hT (fun _ h => h.elim)
 refine ye <| ys <| ysr <| yp 4 [] (.l (hB14.c 3) .z) <| yw [7] (rY ((ac.marks).toList == ((⟨#[40]⟩ : ByteArray)).toList)) (fun hC23 => ?_) fun hC23 => ?_
 ·have hpp0 := hC23
  obtain ⟨hms, hmb⟩ := mark40 hC23
  refine yp 8 [] .z <| ye <| yct <| ys <| ysr <| yp 4 [] (.l (hB14.c 2) .z) <| yw [15] (rE ac.last 48) (fun hC24 => ?_) fun hC24 => ?_
  ·have hpp1 := hC24
   refine yp 8 [] .z <| ye <| yct <| yD [11] fun w25 hH26 hc27 => ?_
   have hS28 := Ch.trans hS17 hc27 eZ
   have ht30 := ht19.ch hc27 id
   have hB34 := hB14.ch hc27 id
   refine yd (uL 0 11) [4] (.l (hB34.c 3) (.i 0 ((ac.marks).size) (.p (q := InR .u8 ((bt ac.marks 0) - 40)) (in8 (by omega) (by omega)) (.l (hB34.c 2) (.i ((bt ac.marks 0) - 40) (2) .z))))) ?_
   have hz : (((bt ac.marks 0) - 40) : Int).toNat = 0 := by omega
   refine yK 11 (e_store (92 + (((bt ac.marks 0) - 40) : Int).toNat * 1) [.bool ((ac.last : Int) == 48)] none (by kernel_rfl) ht30 (by rw [tvals_len]; simp only [List.length_cons, List.length_nil]; omega) ?_)
   intro w35 hB36 hc37
   rw [hz] at hB36
   replace hB36 : Blk w35 t (TS.vals ({ T with draw0 := ((ac.last : Int) == 48) } : TS) g o (.slice ba bn bc) (.slice pa pn pc)) tTerm := Blk.to hB36 (by kernel_rfl)
   have hS38 := Ch.trans hS28 hc37 (fun i hi (h : i = t) => h)
   refine x_killed <| yDe (nS ?_)
   refine x_ret (rS (yR0 ?_))
   have hI43 := hI.scalar (T' := ({ T with draw0 := ((ac.last : Int) == 48) } : TS)) hS38 hB36 rfl rfl rfl rfl
   have hX44 : Ch F w w35 := Ch.trans (Ch.refl F w) hS38 (fun i _ h => h ▸ hFt)
   have hA45 : TermAt w35 t ({ T with draw0 := ((ac.last : Int) == 48) } : TS) (more F w w35) := ⟨_, _, _, _, _, _, _, _, _, _, _, _, hI43.mono (fun _ h => .inl h) (hI.moreOk hX44.size)⟩
   refine ⟨rfl, TermAt.eq' hA45 ?_, hX44⟩
   simp only [escT, lateT, hpp0, hpp1, ↓reduceIte, Int.reduceEq, Int.reduceLT, Int.reduceLE, Bool.and_true, Bool.true_and, Bool.and_false, Bool.false_and, Bool.false_eq_true, Bool.true_eq_false, and_true, true_and, and_false, false_and, or_true, true_or, or_false, false_or]
  have hpp1 := hC24
  refine yp 8 [] (.l (hB14.c 2) .z) <| ye <| yc (rE ac.last 66) (fun hC46 => ?_) fun hC46 => ?_
  ·have hpp2 := hC46
   refine yD [11] fun w47 hH48 hc49 => ?_
   have hS50 := Ch.trans hS17 hc49 eZ
   have ht52 := ht19.ch hc49 id
   have hB56 := hB14.ch hc49 id
   refine yd (uL 0 11) [4] (.l (hB56.c 3) (.i 0 ((ac.marks).size) (.p (q := InR .u8 ((bt ac.marks 0) - 40)) (in8 (by omega) (by omega)) (.l (hB56.c 2) (.i ((bt ac.marks 0) - 40) (2) .z))))) ?_
   have hz : (((bt ac.marks 0) - 40) : Int).toNat = 0 := by omega
   refine yK 11 (e_store (92 + (((bt ac.marks 0) - 40) : Int).toNat * 1) [.bool ((ac.last : Int) == 48)] none (by kernel_rfl) ht52 (by rw [tvals_len]; simp only [List.length_cons, List.length_nil]; omega) ?_)
   intro w57 hB58 hc59
   rw [hz] at hB58
   replace hB58 : Blk w57 t (TS.vals ({ T with draw0 := ((ac.last : Int) == 48) } : TS) g o (.slice ba bn bc) (.slice pa pn pc)) tTerm := Blk.to hB58 (by kernel_rfl)
   have hS60 := Ch.trans hS50 hc59 (fun i hi (h : i = t) => h)
   refine x_killed <| yDe (nS ?_)
   refine x_ret (rS (yR0 ?_))
   have hI65 := hI.scalar (T' := ({ T with draw0 := ((ac.last : Int) == 48) } : TS)) hS60 hB58 rfl rfl rfl rfl
   have hX66 : Ch F w w57 := Ch.trans (Ch.refl F w) hS60 (fun i _ h => h ▸ hFt)
   have hA67 : TermAt w57 t ({ T with draw0 := ((ac.last : Int) == 48) } : TS) (more F w w57) := ⟨_, _, _, _, _, _, _, _, _, _, _, _, hI65.mono (fun _ h => .inl h) (hI.moreOk hX66.size)⟩
   refine ⟨rfl, TermAt.eq' hA67 ?_, hX66⟩
   simp only [escT, lateT, hpp0, eq_false hpp1, hpp2, ↓reduceIte, Int.reduceEq, Int.reduceLT, Int.reduceLE, Bool.and_true, Bool.true_and, Bool.and_false, Bool.false_and, Bool.false_eq_true, Bool.true_eq_false, and_true, true_and, and_false, false_and, or_true, true_or, or_false, false_or]
  have hpp2 := hC46
  refine yk <| x_ret (rS (yR0 ?_))
  have hI68 := hI.scalar (T' := T) hS17 ht19 rfl rfl rfl rfl
  have hX69 : Ch F w w10 := Ch.trans (Ch.refl F w) hS17 (fun i _ h => h ▸ hFt)
  have hA70 : TermAt w10 t T (more F w w10) := ⟨_, _, _, _, _, _, _, _, _, _, _, _, hI68.mono (fun _ h => .inl h) (hI.moreOk hX69.size)⟩
  refine ⟨rfl, TermAt.eq' hA70 ?_, hX69⟩
  simp only [escT, lateT, hpp0, eq_false hpp1, eq_false hpp2, ↓reduceIte, Int.reduceEq, Int.reduceLT, Int.reduceLE, Bool.and_true, Bool.true_and, Bool.and_false, Bool.false_and, Bool.false_eq_true, Bool.true_eq_false, and_true, true_and, and_false, false_and, or_true, true_or, or_false, false_or]
 have hpp0 := hC23
 refine yp 8 [] (.l (hB14.c 3) .z) <| ye <| yc (rY ((ac.marks).toList == ((⟨#[41]⟩ : ByteArray)).toList)) (fun hC71 => ?_) fun hC71 => ?_
 ·have hpp1 := hC71
  obtain ⟨hms, hmb⟩ := mark41 hC71
  refine ys <| ysr <| yp 4 [] (.l (hB14.c 2) .z) <| yw [15] (rE ac.last 48) (fun hC72 => ?_) fun hC72 => ?_
  ·have hpp2 := hC72
   refine yp 8 [] .z <| ye <| yct <| yD [11] fun w73 hH74 hc75 => ?_
   have hS76 := Ch.trans hS17 hc75 eZ
   have ht78 := ht19.ch hc75 id
   have hB82 := hB14.ch hc75 id
   refine yd (uL 0 11) [4] (.l (hB82.c 3) (.i 0 ((ac.marks).size) (.p (q := InR .u8 ((bt ac.marks 0) - 40)) (in8 (by omega) (by omega)) (.l (hB82.c 2) (.i ((bt ac.marks 0) - 40) (2) .z))))) ?_
   have hz : (((bt ac.marks 0) - 40) : Int).toNat = 1 := by omega
   refine yK 11 (e_store (92 + (((bt ac.marks 0) - 40) : Int).toNat * 1) [.bool ((ac.last : Int) == 48)] none (by kernel_rfl) ht78 (by rw [tvals_len]; simp only [List.length_cons, List.length_nil]; omega) ?_)
   intro w83 hB84 hc85
   rw [hz] at hB84
   replace hB84 : Blk w83 t (TS.vals ({ T with draw1 := ((ac.last : Int) == 48) } : TS) g o (.slice ba bn bc) (.slice pa pn pc)) tTerm := Blk.to hB84 (by kernel_rfl)
   have hS86 := Ch.trans hS76 hc85 (fun i hi (h : i = t) => h)
   refine x_killed <| yDe (nS ?_)
   refine x_ret (rS (yR0 ?_))
   have hI91 := hI.scalar (T' := ({ T with draw1 := ((ac.last : Int) == 48) } : TS)) hS86 hB84 rfl rfl rfl rfl
   have hX92 : Ch F w w83 := Ch.trans (Ch.refl F w) hS86 (fun i _ h => h ▸ hFt)
   have hA93 : TermAt w83 t ({ T with draw1 := ((ac.last : Int) == 48) } : TS) (more F w w83) := ⟨_, _, _, _, _, _, _, _, _, _, _, _, hI91.mono (fun _ h => .inl h) (hI.moreOk hX92.size)⟩
   refine ⟨rfl, TermAt.eq' hA93 ?_, hX92⟩
   simp only [escT, lateT, hpp0, hpp1, hpp2, ↓reduceIte, Int.reduceEq, Int.reduceLT, Int.reduceLE, Bool.and_true, Bool.true_and, Bool.and_false, Bool.false_and, Bool.false_eq_true, Bool.true_eq_false, and_true, true_and, and_false, false_and, or_true, true_or, or_false, false_or]
  have hpp2 := hC72
  refine yp 8 [] (.l (hB14.c 2) .z) <| ye <| yc (rE ac.last 66) (fun hC94 => ?_) fun hC94 => ?_
  ·have hpp3 := hC94
   refine yD [11] fun w95 hH96 hc97 => ?_
   have hS98 := Ch.trans hS17 hc97 eZ
   have ht100 := ht19.ch hc97 id
   have hB104 := hB14.ch hc97 id
   refine yd (uL 0 11) [4] (.l (hB104.c 3) (.i 0 ((ac.marks).size) (.p (q := InR .u8 ((bt ac.marks 0) - 40)) (in8 (by omega) (by omega)) (.l (hB104.c 2) (.i ((bt ac.marks 0) - 40) (2) .z))))) ?_
   have hz : (((bt ac.marks 0) - 40) : Int).toNat = 1 := by omega
   refine yK 11 (e_store (92 + (((bt ac.marks 0) - 40) : Int).toNat * 1) [.bool ((ac.last : Int) == 48)] none (by kernel_rfl) ht100 (by rw [tvals_len]; simp only [List.length_cons, List.length_nil]; omega) ?_)
   intro w105 hB106 hc107
   rw [hz] at hB106
   replace hB106 : Blk w105 t (TS.vals ({ T with draw1 := ((ac.last : Int) == 48) } : TS) g o (.slice ba bn bc) (.slice pa pn pc)) tTerm := Blk.to hB106 (by kernel_rfl)
   have hS108 := Ch.trans hS98 hc107 (fun i hi (h : i = t) => h)
   refine x_killed <| yDe (nS ?_)
   refine x_ret (rS (yR0 ?_))
   have hI113 := hI.scalar (T' := ({ T with draw1 := ((ac.last : Int) == 48) } : TS)) hS108 hB106 rfl rfl rfl rfl
   have hX114 : Ch F w w105 := Ch.trans (Ch.refl F w) hS108 (fun i _ h => h ▸ hFt)
   have hA115 : TermAt w105 t ({ T with draw1 := ((ac.last : Int) == 48) } : TS) (more F w w105) := ⟨_, _, _, _, _, _, _, _, _, _, _, _, hI113.mono (fun _ h => .inl h) (hI.moreOk hX114.size)⟩
   refine ⟨rfl, TermAt.eq' hA115 ?_, hX114⟩
   simp only [escT, lateT, hpp0, hpp1, eq_false hpp2, hpp3, ↓reduceIte, Int.reduceEq, Int.reduceLT, Int.reduceLE, Bool.and_true, Bool.true_and, Bool.and_false, Bool.false_and, Bool.false_eq_true, Bool.true_eq_false, and_true, true_and, and_false, false_and, or_true, true_or, or_false, false_or]
  have hpp3 := hC94
  refine yk <| x_ret (rS (yR0 ?_))
  have hI116 := hI.scalar (T' := T) hS17 ht19 rfl rfl rfl rfl
  have hX117 : Ch F w w10 := Ch.trans (Ch.refl F w) hS17 (fun i _ h => h ▸ hFt)
  have hA118 : TermAt w10 t T (more F w w10) := ⟨_, _, _, _, _, _, _, _, _, _, _, _, hI116.mono (fun _ h => .inl h) (hI.moreOk hX117.size)⟩
  refine ⟨rfl, TermAt.eq' hA118 ?_, hX117⟩
  simp only [escT, lateT, hpp0, hpp1, eq_false hpp2, eq_false hpp3, ↓reduceIte, Int.reduceEq, Int.reduceLT, Int.reduceLE, Bool.and_true, Bool.true_and, Bool.and_false, Bool.false_and, Bool.false_eq_true, Bool.true_eq_false, and_true, true_and, and_false, false_and, or_true, true_or, or_false, false_or]
 have hpp1 := hC71
 refine yk <| ys <| ysr <| yp 3 [] (.l (hB14.c 3) .z) <| ye <| yc (rN (rY ((ac.marks).toList == (ByteArray.empty).toList))) (fun hC119 => ?_) fun hC119 => ?_
 ·have hpp2 := hC119
  refine x_ret (rS (yR0 ?_))
  have hI120 := hI.scalar (T' := T) hS17 ht19 rfl rfl rfl rfl
  have hX121 : Ch F w w10 := Ch.trans (Ch.refl F w) hS17 (fun i _ h => h ▸ hFt)
  have hA122 : TermAt w10 t T (more F w w10) := ⟨_, _, _, _, _, _, _, _, _, _, _, _, hI120.mono (fun _ h => .inl h) (hI.moreOk hX121.size)⟩
  refine ⟨rfl, TermAt.eq' hA122 ?_, hX121⟩
  simp only [escT, lateT, hpp0, hpp1, hpp2, ↓reduceIte, Int.reduceEq, Int.reduceLT, Int.reduceLE, Bool.and_true, Bool.true_and, Bool.and_false, Bool.false_and, Bool.false_eq_true, Bool.true_eq_false, and_true, true_and, and_false, false_and, or_true, true_or, or_false, false_or]
 have hpp2 := hC119
 refine yk <| ysr <| yp 2 [] (.l (hB14.c 2) .z) <| ye <| x_block <| ysr <| yp 2 [] .z <| ye <| yc (rE ac.last 55) (fun hC123 => ?_) fun hC123 => ?_
 ·have hpp3 := hC123
  refine x_region <| yp 7 [] (.a (ht19.cs 2 8) .z) <| yo (e_store 10 [iX T.cursor.x, iX T.cursor.y, .bool T.cursor.late, .bool T.cursor.sty.bold, .bool T.cursor.sty.under, .bool T.cursor.sty.turned, iX T.cursor.sty.fore, iX T.cursor.sty.back] none (by kernel_rfl) ht19 (of_ble (by kernel_rfl)) ?_)
  intro w124 hB125 hc126
  replace hB125 : Blk w124 t (TS.vals ({ T with saved := T.cursor } : TS) g o (.slice ba bn bc) (.slice pa pn pc)) tTerm := Blk.to hB125 (by kernel_rfl)
  have hS128 := Ch.trans hS17 hc126 (fun i hi (h : i = t) => h)
  refine yE (nB (yR0' ?_))
  have hI133 := hI.scalar (T' := ({ T with saved := T.cursor } : TS)) hS128 hB125 rfl rfl rfl rfl
  have hX134 : Ch F w w124 := Ch.trans (Ch.refl F w) hS128 (fun i _ h => h ▸ hFt)
  have hA135 : TermAt w124 t ({ T with saved := T.cursor } : TS) (more F w w124) := ⟨_, _, _, _, _, _, _, _, _, _, _, _, hI133.mono (fun _ h => .inl h) (hI.moreOk hX134.size)⟩
  refine ⟨rfl, TermAt.eq' hA135 ?_, hX134⟩
  simp only [escT, lateT, hpp0, hpp1, hpp2, hpp3, ↓reduceIte, Int.reduceEq, Int.reduceLT, Int.reduceLE, Bool.and_true, Bool.true_and, Bool.and_false, Bool.false_and, Bool.false_eq_true, Bool.true_eq_false, and_true, true_and, and_false, false_and, or_true, true_or, or_false, false_or]
 have hpp3 := hC123
 refine ysr <| yp 2 [] .z <| ye <| yc (rE ac.last 56) (fun hC136 => ?_) fun hC136 => ?_
 ·have hpp4 := hC136
  refine x_region <| yp 7 [] (.a (ht19.cs 10 8) .z) <| yo (e_store 2 [iX T.saved.x, iX T.saved.y, .bool T.saved.late, .bool T.saved.sty.bold, .bool T.saved.sty.under, .bool T.saved.sty.turned, iX T.saved.sty.fore, iX T.saved.sty.back] none (by kernel_rfl) ht19 (of_ble (by kernel_rfl)) ?_)
  intro w137 hB138 hc139
  replace hB138 : Blk w137 t (TS.vals ({ T with cursor := T.saved } : TS) g o (.slice ba bn bc) (.slice pa pn pc)) tTerm := Blk.to hB138 (by kernel_rfl)
  have hS141 := Ch.trans hS17 hc139 (fun i hi (h : i = t) => h)
  refine yE (nB (yR0' ?_))
  have hI146 := hI.scalar (T' := ({ T with cursor := T.saved } : TS)) hS141 hB138 rfl rfl rfl rfl
  have hX147 : Ch F w w137 := Ch.trans (Ch.refl F w) hS141 (fun i _ h => h ▸ hFt)
  have hA148 : TermAt w137 t ({ T with cursor := T.saved } : TS) (more F w w137) := ⟨_, _, _, _, _, _, _, _, _, _, _, _, hI146.mono (fun _ h => .inl h) (hI.moreOk hX147.size)⟩
  refine ⟨rfl, TermAt.eq' hA148 ?_, hX147⟩
  simp only [escT, lateT, hpp0, hpp1, hpp2, eq_false hpp3, hpp4, ↓reduceIte, Int.reduceEq, Int.reduceLT, Int.reduceLE, Bool.and_true, Bool.true_and, Bool.and_false, Bool.false_and, Bool.false_eq_true, Bool.true_eq_false, and_true, true_and, and_false, false_and, or_true, true_or, or_false, false_or]
 have hpp4 := hC136
 refine ysr <| yp 2 [] .z <| ye <| yc (rE ac.last 68) (fun hC149 => ?_) fun hC149 => ?_
 ·have hpp5 := hC149
  refine ysr <| yp 1 [] .z ?_
  have hI150 := hI.scalar (T' := T) hS17 ht19 rfl rfl rfl rfl
  have hA151 : TermAt w10 t T F := ⟨_, _, _, _, _, _, _, _, _, _, _, _, hI150⟩
  have hpre152 : Ch F w w10 := hS17.mono (fun i _ h => h ▸ hFt)
  have hly153 := hB14.lt
  have hX154 : Ch F w10 w10 := Ch.trans (Ch.refl F w10) (Ch.refl (fun j => j = t) w10) (fun i _ h => h ▸ hFt)
  have hA155 : TermAt w10 t T (more F w10 w10) := ⟨_, _, _, _, _, _, _, _, _, _, _, _, hI150.mono (fun _ h => .inl h) (hI150.moreOk hX154.size)⟩
  refine yo (yQ (down_lim hA155 hT21.tb hL  ) ?_)
  rintro w161 ⟨hB156, hc157⟩
  obtain ⟨hN158, hX159⟩ := TermAt.next hA151 hX154 hc157 hB156
  have hL165 : Lim W H (downT T) := (lim_down hL)
  generalize hE165 : (downT T) = T165 at hN158 hL165
  have hM165 := hL165
  obtain ⟨⟨hwa165, hwb165⟩, ⟨hha165, hhb165⟩, ⟨hgw165, hgh165⟩, ⟨how165, hoh165⟩, ⟨⟨hcx165, hcX165⟩, hcy165, hcY165⟩, ⟨⟨hsx165, hsX165⟩, hsy165, hsY165⟩, ⟨⟨hax165, haX165⟩, hay165, haY165⟩, ⟨htp165, htb165, hbh165⟩, hbk165, hrp165⟩ := hM165
  obtain ⟨g165, o165, ba165, bn165, bc165, pa165, pn165, pc165, F1165, F2165, FB165, FP165, hI160⟩ := hN158
  obtain ⟨gv165, hgd166⟩ := hI160.g1.head
  have htg167 : Df t g165 := fun e => hI160.t1 (e ▸ hI160.g1.inF)
  refine ye <| x_region <| yp 4 [] .z <| yo (e_store 4 [.bool false] none (by kernel_rfl) hI160.blk (of_ble (by kernel_rfl)) ?_)
  intro w168 hB169 hc170
  replace hB169 : Blk w168 t (TS.vals ({ T165 with cursor := (Cur.mk T165.cursor.x T165.cursor.y false T165.cursor.sty) } : TS) g165 o165 (.slice ba165 bn165 bc165) (.slice pa165 pn165 pc165)) tTerm := Blk.to hB169 (by kernel_rfl)
  have hS172 := Ch.trans (Ch.refl (fun j => j = t) w161) hc170 (fun i hi (h : i = t) => h)
  refine yE (nB (yR0' ?_))
  have hI177 := hI160.scalar (T' := ({ T165 with cursor := (Cur.mk T165.cursor.x T165.cursor.y false T165.cursor.sty) } : TS)) hS172 hB169 rfl rfl rfl rfl
  have hX178 : Ch F w10 w168 := Ch.trans hX159 hS172 (fun i _ h => h ▸ hFt)
  have hA179 : TermAt w168 t ({ T165 with cursor := (Cur.mk T165.cursor.x T165.cursor.y false T165.cursor.sty) } : TS) (more F w10 w168) := ⟨_, _, _, _, _, _, _, _, _, _, _, _, hI177.mono (fun b hb => hb.elim .inl (fun h2 => .inr ⟨h2.1, by have := Ch.size hS172; omega⟩)) (hI150.moreOk hX178.size)⟩
  subst hE165
  refine ⟨rfl, TermAt.eq' (hA179.mono (more_le hpre152.size) (hI.moreOk (Nat.le_trans hpre152.size hX178.size))) ?_, Ch.trans hpre152 hX178 iZ⟩
  simp only [escT, lateT, hpp0, hpp1, hpp2, eq_false hpp3, eq_false hpp4, hpp5, ↓reduceIte, Int.reduceEq, Int.reduceLT, Int.reduceLE, Bool.and_true, Bool.true_and, Bool.and_false, Bool.false_and, Bool.false_eq_true, Bool.true_eq_false, and_true, true_and, and_false, false_and, or_true, true_or, or_false, false_or]
 have hpp5 := hC149
 refine ysr <| yp 2 [] .z <| ye <| yc (rE ac.last 69) (fun hC180 => ?_) fun hC180 => ?_
 ·have hpp6 := hC180
  refine ysr <| yp 1 [] .z ?_
  have hI181 := hI.scalar (T' := T) hS17 ht19 rfl rfl rfl rfl
  have hA182 : TermAt w10 t T F := ⟨_, _, _, _, _, _, _, _, _, _, _, _, hI181⟩
  have hpre183 : Ch F w w10 := hS17.mono (fun i _ h => h ▸ hFt)
  have hly184 := hB14.lt
  have hX185 : Ch F w10 w10 := Ch.trans (Ch.refl F w10) (Ch.refl (fun j => j = t) w10) (fun i _ h => h ▸ hFt)
  have hA186 : TermAt w10 t T (more F w10 w10) := ⟨_, _, _, _, _, _, _, _, _, _, _, _, hI181.mono (fun _ h => .inl h) (hI181.moreOk hX185.size)⟩
  refine yo (yQ (down_lim hA186 hT21.tb hL  ) ?_)
  rintro w192 ⟨hB187, hc188⟩
  obtain ⟨hN189, hX190⟩ := TermAt.next hA182 hX185 hc188 hB187
  have hT193 := lt_ch hc188 hT21 (fun b hb => (hI181.moreOk hX185.size b hb).2)
  have hL196 : Lim W H (downT T) := (lim_down hL)
  generalize hE196 : (downT T) = T196 at hN189 hL196
  have hM196 := hL196
  obtain ⟨⟨hwa196, hwb196⟩, ⟨hha196, hhb196⟩, ⟨hgw196, hgh196⟩, ⟨how196, hoh196⟩, ⟨⟨hcx196, hcX196⟩, hcy196, hcY196⟩, ⟨⟨hsx196, hsX196⟩, hsy196, hsY196⟩, ⟨⟨hax196, haX196⟩, hay196, haY196⟩, ⟨htp196, htb196, hbh196⟩, hbk196, hrp196⟩ := hM196
  obtain ⟨g196, o196, ba196, bn196, bc196, pa196, pn196, pc196, F1196, F2196, FB196, FP196, hI191⟩ := hN189
  obtain ⟨gv196, hgd197⟩ := hI191.g1.head
  have htg198 : Df t g196 := fun e => hI191.t1 (e ▸ hI191.g1.inF)
  refine ye <| x_region <| yp 6 [] (.l (hI191.blk.c 3) .z) ?_
  have hX199 : Ch F w10 w192 := Ch.trans hX190 (Ch.refl (fun j => j = t) w192) (fun i _ h => h ▸ hFt)
  have hA200 : TermAt w192 t T196 (more F w10 w192) := ⟨_, _, _, _, _, _, _, _, _, _, _, _, hI191.mono (fun b hb => hb.elim .inl (fun h2 => .inr ⟨h2.1, by have := Ch.size (Ch.refl (fun j => j = t) w192); omega⟩)) (hI181.moreOk hX199.size)⟩
  refine yo (yQ (move_lim hA200 hT193.tb hL196  (0) (T196.cursor.y)) ?_)
  rintro w206 ⟨hB201, hc202⟩
  obtain ⟨hN203, hX204⟩ := TermAt.next hA182 hX199 hc202 hB201
  have hL210 : Lim W H (moveT T196 (0) (T196.cursor.y)) := (lim_move hL196 (0) (T196.cursor.y))
  generalize hE210 : (moveT T196 (0) (T196.cursor.y)) = T210 at hN203 hL210
  have hM210 := hL210
  obtain ⟨⟨hwa210, hwb210⟩, ⟨hha210, hhb210⟩, ⟨hgw210, hgh210⟩, ⟨how210, hoh210⟩, ⟨⟨hcx210, hcX210⟩, hcy210, hcY210⟩, ⟨⟨hsx210, hsX210⟩, hsy210, hsY210⟩, ⟨⟨hax210, haX210⟩, hay210, haY210⟩, ⟨htp210, htb210, hbh210⟩, hbk210, hrp210⟩ := hM210
  obtain ⟨g210, o210, ba210, bn210, bc210, pa210, pn210, pc210, F1210, F2210, FB210, FP210, hI205⟩ := hN203
  obtain ⟨gv210, hgd211⟩ := hI205.g1.head
  have htg212 : Df t g210 := fun e => hI205.t1 (e ▸ hI205.g1.inF)
  refine yE (nB (yR0' ?_))
  have hX213 : Ch F w10 w206 := Ch.trans hX204 (Ch.refl (fun j => j = t) w206) (fun i _ h => h ▸ hFt)
  have hA214 : TermAt w206 t T210 (more F w10 w206) := ⟨_, _, _, _, _, _, _, _, _, _, _, _, hI205.mono (fun b hb => hb.elim .inl (fun h2 => .inr ⟨h2.1, by have := Ch.size (Ch.refl (fun j => j = t) w206); omega⟩)) (hI181.moreOk hX213.size)⟩
  subst hE210
  subst hE196
  refine ⟨rfl, TermAt.eq' (hA214.mono (more_le hpre183.size) (hI.moreOk (Nat.le_trans hpre183.size hX213.size))) ?_, Ch.trans hpre183 hX213 iZ⟩
  simp only [escT, lateT, hpp0, hpp1, hpp2, eq_false hpp3, eq_false hpp4, eq_false hpp5, hpp6, ↓reduceIte, Int.reduceEq, Int.reduceLT, Int.reduceLE, Bool.and_true, Bool.true_and, Bool.and_false, Bool.false_and, Bool.false_eq_true, Bool.true_eq_false, and_true, true_and, and_false, false_and, or_true, true_or, or_false, false_or]
 have hpp6 := hC180
 refine ysr <| yp 2 [] .z <| ye <| yc (rE ac.last 77) (fun hC215 => ?_) fun hC215 => ?_
 ·have hpp7 := hC215
  refine ysr <| yp 1 [] .z ?_
  have hI216 := hI.scalar (T' := T) hS17 ht19 rfl rfl rfl rfl
  have hA217 : TermAt w10 t T F := ⟨_, _, _, _, _, _, _, _, _, _, _, _, hI216⟩
  have hpre218 : Ch F w w10 := hS17.mono (fun i _ h => h ▸ hFt)
  have hly219 := hB14.lt
  have hX220 : Ch F w10 w10 := Ch.trans (Ch.refl F w10) (Ch.refl (fun j => j = t) w10) (fun i _ h => h ▸ hFt)
  have hA221 : TermAt w10 t T (more F w10 w10) := ⟨_, _, _, _, _, _, _, _, _, _, _, _, hI216.mono (fun _ h => .inl h) (hI216.moreOk hX220.size)⟩
  refine yo (yQ (up_lim hA221 hT21.tb hL  ) ?_)
  rintro w227 ⟨hB222, hc223⟩
  obtain ⟨hN224, hX225⟩ := TermAt.next hA217 hX220 hc223 hB222
  have hL231 : Lim W H (upT T) := (lim_up hL)
  generalize hE231 : (upT T) = T231 at hN224 hL231
  have hM231 := hL231
  obtain ⟨⟨hwa231, hwb231⟩, ⟨hha231, hhb231⟩, ⟨hgw231, hgh231⟩, ⟨how231, hoh231⟩, ⟨⟨hcx231, hcX231⟩, hcy231, hcY231⟩, ⟨⟨hsx231, hsX231⟩, hsy231, hsY231⟩, ⟨⟨hax231, haX231⟩, hay231, haY231⟩, ⟨htp231, htb231, hbh231⟩, hbk231, hrp231⟩ := hM231
  obtain ⟨g231, o231, ba231, bn231, bc231, pa231, pn231, pc231, F1231, F2231, FB231, FP231, hI226⟩ := hN224
  obtain ⟨gv231, hgd232⟩ := hI226.g1.head
  have htg233 : Df t g231 := fun e => hI226.t1 (e ▸ hI226.g1.inF)
  refine ye <| x_region <| yp 4 [] .z <| yo (e_store 4 [.bool false] none (by kernel_rfl) hI226.blk (of_ble (by kernel_rfl)) ?_)
  intro w234 hB235 hc236
  replace hB235 : Blk w234 t (TS.vals ({ T231 with cursor := (Cur.mk T231.cursor.x T231.cursor.y false T231.cursor.sty) } : TS) g231 o231 (.slice ba231 bn231 bc231) (.slice pa231 pn231 pc231)) tTerm := Blk.to hB235 (by kernel_rfl)
  have hS238 := Ch.trans (Ch.refl (fun j => j = t) w227) hc236 (fun i hi (h : i = t) => h)
  refine yE (nB (yR0' ?_))
  have hI243 := hI226.scalar (T' := ({ T231 with cursor := (Cur.mk T231.cursor.x T231.cursor.y false T231.cursor.sty) } : TS)) hS238 hB235 rfl rfl rfl rfl
  have hX244 : Ch F w10 w234 := Ch.trans hX225 hS238 (fun i _ h => h ▸ hFt)
  have hA245 : TermAt w234 t ({ T231 with cursor := (Cur.mk T231.cursor.x T231.cursor.y false T231.cursor.sty) } : TS) (more F w10 w234) := ⟨_, _, _, _, _, _, _, _, _, _, _, _, hI243.mono (fun b hb => hb.elim .inl (fun h2 => .inr ⟨h2.1, by have := Ch.size hS238; omega⟩)) (hI216.moreOk hX244.size)⟩
  subst hE231
  refine ⟨rfl, TermAt.eq' (hA245.mono (more_le hpre218.size) (hI.moreOk (Nat.le_trans hpre218.size hX244.size))) ?_, Ch.trans hpre218 hX244 iZ⟩
  simp only [escT, lateT, hpp0, hpp1, hpp2, eq_false hpp3, eq_false hpp4, eq_false hpp5, eq_false hpp6, hpp7, ↓reduceIte, Int.reduceEq, Int.reduceLT, Int.reduceLE, Bool.and_true, Bool.true_and, Bool.and_false, Bool.false_and, Bool.false_eq_true, Bool.true_eq_false, and_true, true_and, and_false, false_and, or_true, true_or, or_false, false_or]
 have hpp7 := hC215
 refine ysr <| yp 2 [] .z <| ye <| yc (rE ac.last 72) (fun hC246 => ?_) fun hC246 => ?_
 ·have hpp8 := hC246
  refine yD [9] fun w247 hH248 hc249 => ?_
  have hS250 := Ch.trans hS17 hc249 eZ
  have ht252 := ht19.ch hc249 id
  refine yd (uL 0 9) [] (.l (ht252.c 2) (.i T.cursor.x (60) .z)) <| yK 9 (e_store (28 + (T.cursor.x : Int).toNat * 1) [.bool true] none (by kernel_rfl) ht252 (by rw [tvals_len]; simp only [List.length_cons, List.length_nil]; omega) ?_)
  intro w257 hB258 hc259
  replace hB258 : Blk w257 t (TS.vals ({ T with tabs := (fun i => if i = (T.cursor.x : Int).toNat then true else T.tabs i) } : TS) g o (.slice ba bn bc) (.slice pa pn pc)) tTerm := Blk.to hB258 (tabs_put T _ _ _ _ _ (by omega) _)
  have hS260 := Ch.trans hS250 hc259 (fun i hi (h : i = t) => h)
  refine x_killed <| yDe (nB (yR0' ?_))
  have hI265 := hI.scalar (T' := ({ T with tabs := (fun i => if i = (T.cursor.x : Int).toNat then true else T.tabs i) } : TS)) hS260 hB258 rfl rfl rfl rfl
  have hX266 : Ch F w w257 := Ch.trans (Ch.refl F w) hS260 (fun i _ h => h ▸ hFt)
  have hA267 : TermAt w257 t ({ T with tabs := (fun i => if i = (T.cursor.x : Int).toNat then true else T.tabs i) } : TS) (more F w w257) := ⟨_, _, _, _, _, _, _, _, _, _, _, _, hI265.mono (fun _ h => .inl h) (hI.moreOk hX266.size)⟩
  refine ⟨rfl, TermAt.eq' hA267 ?_, hX266⟩
  simp only [escT, lateT, hpp0, hpp1, hpp2, eq_false hpp3, eq_false hpp4, eq_false hpp5, eq_false hpp6, eq_false hpp7, hpp8, ↓reduceIte, Int.reduceEq, Int.reduceLT, Int.reduceLE, Bool.and_true, Bool.true_and, Bool.and_false, Bool.false_and, Bool.false_eq_true, Bool.true_eq_false, and_true, true_and, and_false, false_and, or_true, true_or, or_false, false_or]
 have hpp8 := hC246
 refine ysr <| yp 2 [] .z <| ye <| yc (rE ac.last 99) (fun hC268 => ?_) fun hC268 => ?_
 ·have hpp9 := hC268
  refine yD [15] fun w269 hH270 hc271 => ?_
  have hS272 := Ch.trans hS17 hc271 eZ
  have ht274 := ht19.ch hc271 id
  have hg275 := hg20.ch hc271 id
  have hT276 := lt_ch hc271 hT21 (fun _ h => h.elim)
  have hB278 := hB14.ch hc271 id
  refine yd (uL 0 15) [] (.l (ht274.c 0) (.l (hg275.c 0) (.l (ht274.c 0) (.l (hg275.c 1) .z)))) ?_
  have hI279 := hI.scalar (T' := T) hS272 ht274 rfl rfl rfl rfl
  have hA280 : TermAt w269 t T F := ⟨_, _, _, _, _, _, _, _, _, _, _, _, hI279⟩
  have hpre281 : Ch F w w269 := hS272.mono (fun i _ h => h ▸ hFt)
  have hly282 := hB278.lt
  have hX283 : Ch F w269 w269 := Ch.trans (Ch.refl F w269) (Ch.refl (fun j => j = t) w269) (fun i _ h => h ▸ hFt)
  have hA284 : TermAt w269 t T (more F w269 w269) := ⟨_, _, _, _, _, _, _, _, _, _, _, _, hI279.mono (fun _ h => .inl h) (hI279.moreOk hX283.size)⟩
  refine yK 15 (yQ (start_at hA284 hT276 hL  (T.grid.w) (T.grid.h)) ?_)
  rintro w290 ⟨hB285, hc286⟩
  obtain ⟨hN287, hX288⟩ := TermAt.next hA280 hX283 hc286 hB285
  have hL294 : Lim W H (startT T (T.grid.w) (T.grid.h)) := (lim_start' hL)
  generalize hE294 : (startT T (T.grid.w) (T.grid.h)) = T294 at hN287 hL294
  have hM294 := hL294
  obtain ⟨⟨hwa294, hwb294⟩, ⟨hha294, hhb294⟩, ⟨hgw294, hgh294⟩, ⟨how294, hoh294⟩, ⟨⟨hcx294, hcX294⟩, hcy294, hcY294⟩, ⟨⟨hsx294, hsX294⟩, hsy294, hsY294⟩, ⟨⟨hax294, haX294⟩, hay294, haY294⟩, ⟨htp294, htb294, hbh294⟩, hbk294, hrp294⟩ := hM294
  obtain ⟨g294, o294, ba294, bn294, bc294, pa294, pn294, pc294, F1294, F2294, FB294, FP294, hI289⟩ := hN287
  obtain ⟨gv294, hgd295⟩ := hI289.g1.head
  have htg296 : Df t g294 := fun e => hI289.t1 (e ▸ hI289.g1.inF)
  refine x_killed <| yDe (nB (yR0' ?_))
  have hX297 : Ch F w269 w290 := Ch.trans hX288 (Ch.refl (fun j => j = t) w290) (fun i _ h => h ▸ hFt)
  have hA298 : TermAt w290 t T294 (more F w269 w290) := ⟨_, _, _, _, _, _, _, _, _, _, _, _, hI289.mono (fun b hb => hb.elim .inl (fun h2 => .inr ⟨h2.1, by have := Ch.size (Ch.refl (fun j => j = t) w290); omega⟩)) (hI279.moreOk hX297.size)⟩
  subst hE294
  refine ⟨rfl, TermAt.eq' (hA298.mono (more_le hpre281.size) (hI.moreOk (Nat.le_trans hpre281.size hX297.size))) ?_, Ch.trans hpre281 hX297 iZ⟩
  simp only [escT, lateT, hpp0, hpp1, hpp2, eq_false hpp3, eq_false hpp4, eq_false hpp5, eq_false hpp6, eq_false hpp7, eq_false hpp8, hpp9, ↓reduceIte, Int.reduceEq, Int.reduceLT, Int.reduceLE, Bool.and_true, Bool.true_and, Bool.and_false, Bool.false_and, Bool.false_eq_true, Bool.true_eq_false, and_true, true_and, and_false, false_and, or_true, true_or, or_false, false_or]
 have hpp9 := hC268
 refine x_skip (nB (yR0' ?_))
 have hI299 := hI.scalar (T' := T) hS17 ht19 rfl rfl rfl rfl
 have hX300 : Ch F w w10 := Ch.trans (Ch.refl F w) hS17 (fun i _ h => h ▸ hFt)
 have hA301 : TermAt w10 t T (more F w w10) := ⟨_, _, _, _, _, _, _, _, _, _, _, _, hI299.mono (fun _ h => .inl h) (hI.moreOk hX300.size)⟩
 refine ⟨rfl, TermAt.eq' hA301 ?_, hX300⟩
 simp only [escT, lateT, hpp0, hpp1, hpp2, eq_false hpp3, eq_false hpp4, eq_false hpp5, eq_false hpp6, eq_false hpp7, eq_false hpp8, eq_false hpp9, ↓reduceIte, Int.reduceEq, Int.reduceLT, Int.reduceLE, Bool.and_true, Bool.true_and, Bool.and_false, Bool.false_and, Bool.false_eq_true, Bool.true_eq_false, and_true, true_and, and_false, false_and, or_true, true_or, or_false, false_or]
set_option maxHeartbeats 4000000 in
theorem act_at {w : World} {t : Nat} {W H : Int} {T : TS} {F : Nat → Prop} (hA0 : TermAt w t T F) (hT : LT w) (hL : Lim W H T) {ao : Option Nat} {an cc : Nat} {ac : Ac} (hV : IntsAt w .i64 ao an cc ac.params (fun b => ¬ F b ∧ b < w.heap.size)) (hV8 : an ≤ 8) (hVb : ∀ x ∈ ac.params, 0 ≤ x ∧ x ≤ 9999) (hat : ac.text.size ≤ 1000) : Calls Tryd.prog 26 [.pointer (some ⟨t, 0, none⟩), .agg #[.int .i64 ac.kind, .int .i32 ac.rune, .int .u8 ac.last, .string ac.marks, .slice (ao.map at0) an cc, .string ac.text]].toArray w fun e w' => e = .returned (.tuple #[]) ∧ TermAt w' t (actT T ac) (more F w w') ∧ Ch F w w' := by
 obtain ⟨g, o, ba, bn, bc, pa, pn, pc, F1, F2, FB, FP, hI⟩ := hA0
 have hA0 : TermAt w t T F := ⟨g, o, ba, bn, bc, pa, pn, pc, F1, F2, FB, FP, hI⟩
 have hFt := hI.inF.1
 obtain ⟨gv, hgd⟩ := hI.g1.head
 have htg : Df t g := fun e => hI.t1 (e ▸ hI.g1.inF)
 obtain ⟨⟨hw1, hw2⟩, ⟨hh1, hh2⟩, hll, hall⟩ := hI.g1.ok
 have hL0 := hL
 obtain ⟨⟨hwa, hwb⟩, ⟨hha, hhb⟩, ⟨hgw, hgh⟩, ⟨how, hoh⟩, ⟨⟨hcx, hcX⟩, hcy, hcY⟩, ⟨⟨hsx, hsX⟩, hsy, hsY⟩, ⟨⟨hax, haX⟩, hay, haY⟩, ⟨htp, htb, hbh⟩, hbk, hrp⟩ := hL0
 refine yA Tryd.func26 rfl <| ysr <| yo (yN [iX ac.kind, rX ac.rune, uX ac.last, .string ac.marks, .slice (ao.map at0) an cc, .string ac.text] 73 fun w10 b11 hb12 hz13 hB14 hc15 => ?_)
 have hlo16 : w.heap.size ≤ b11 := by rw [hb12]; exact Ch.size (Ch.refl (fun j => j = t) w)
 have hS17 := Ch.trans (Ch.refl (fun j => j = t) w) hc15 eZ
 have ht19 := hI.blk.ch hc15 id
 have hT21 := lt_ch hc15 hT (fun _ h => h.elim)
 have hV22 := hV.ch hc15 iZ
 refine ye <| ysr <| yp 2 [] (.l (hB14.c 0) .z) <| ye <| x_block <| ysr <| yp 2 [] .z <| ye <| yc (rE ac.kind 0) (fun hC23 => ?_) fun hC23 => ?_
 ·have hpp0 := hC23
  refine x_region <| yp 3 [] (.l (hB14.c 1) .z) ?_
  have hI24 := hI.scalar (T' := T) hS17 ht19 rfl rfl rfl rfl
  have hA25 : TermAt w10 t T F := ⟨_, _, _, _, _, _, _, _, _, _, _, _, hI24⟩
  have hpre26 : Ch F w w10 := hS17.mono (fun i _ h => h ▸ hFt)
  have hly27 := hB14.lt
  have hX28 : Ch F w10 w10 := Ch.trans (Ch.refl F w10) (Ch.refl (fun j => j = t) w10) (fun i _ h => h ▸ hFt)
  have hA29 : TermAt w10 t T (more F w10 w10) := ⟨_, _, _, _, _, _, _, _, _, _, _, _, hI24.mono (fun _ h => .inl h) (hI24.moreOk hX28.size)⟩
  refine yo (yQ (print_at hA29 hT21.tb hL  (ac.rune)) ?_)
  rintro w35 ⟨hB30, hc31⟩
  obtain ⟨hN32, hX33⟩ := TermAt.next hA25 hX28 hc31 hB30
  have hL39 : Lim W H (printT T (ac.rune)) := (lim_print hL _)
  generalize hE39 : (printT T (ac.rune)) = T39 at hN32 hL39
  have hM39 := hL39
  obtain ⟨⟨hwa39, hwb39⟩, ⟨hha39, hhb39⟩, ⟨hgw39, hgh39⟩, ⟨how39, hoh39⟩, ⟨⟨hcx39, hcX39⟩, hcy39, hcY39⟩, ⟨⟨hsx39, hsX39⟩, hsy39, hsY39⟩, ⟨⟨hax39, haX39⟩, hay39, haY39⟩, ⟨htp39, htb39, hbh39⟩, hbk39, hrp39⟩ := hM39
  obtain ⟨g39, o39, ba39, bn39, bc39, pa39, pn39, pc39, F139, F239, FB39, FP39, hI34⟩ := hN32
  obtain ⟨gv39, hgd40⟩ := hI34.g1.head
  have htg41 : Df t g39 := fun e => hI34.t1 (e ▸ hI34.g1.inF)
  refine yE (nB (yR0' ?_))
  have hX42 : Ch F w10 w35 := Ch.trans hX33 (Ch.refl (fun j => j = t) w35) (fun i _ h => h ▸ hFt)
  have hA43 : TermAt w35 t T39 (more F w10 w35) := ⟨_, _, _, _, _, _, _, _, _, _, _, _, hI34.mono (fun b hb => hb.elim .inl (fun h2 => .inr ⟨h2.1, by have := Ch.size (Ch.refl (fun j => j = t) w35); omega⟩)) (hI24.moreOk hX42.size)⟩
  subst hE39
  refine ⟨rfl, TermAt.eq' (hA43.mono (more_le hpre26.size) (hI.moreOk (Nat.le_trans hpre26.size hX42.size))) ?_, Ch.trans hpre26 hX42 iZ⟩
  simp only [actT, oscT, hpp0, ↓reduceIte, Int.reduceEq, Int.reduceLT, Int.reduceLE, Bool.and_true, Bool.true_and, Bool.and_false, Bool.false_and, Bool.false_eq_true, Bool.true_eq_false, and_true, true_and, and_false, false_and, or_true, true_or, or_false, false_or]
 have hpp0 := hC23
 refine ysr <| yp 2 [] .z <| ye <| yc (rE ac.kind 1) (fun hC44 => ?_) fun hC44 => ?_
 ·have hpp1 := hC44
  refine x_region <| yp 3 [] (.l (hB14.c 2) .z) ?_
  have hI45 := hI.scalar (T' := T) hS17 ht19 rfl rfl rfl rfl
  have hA46 : TermAt w10 t T F := ⟨_, _, _, _, _, _, _, _, _, _, _, _, hI45⟩
  have hpre47 : Ch F w w10 := hS17.mono (fun i _ h => h ▸ hFt)
  have hly48 := hB14.lt
  have hX49 : Ch F w10 w10 := Ch.trans (Ch.refl F w10) (Ch.refl (fun j => j = t) w10) (fun i _ h => h ▸ hFt)
  have hA50 : TermAt w10 t T (more F w10 w10) := ⟨_, _, _, _, _, _, _, _, _, _, _, _, hI45.mono (fun _ h => .inl h) (hI45.moreOk hX49.size)⟩
  refine yo (yQ (exec_at hA50 hT21.tb hL  (ac.last)) ?_)
  rintro w56 ⟨hB51, hc52⟩
  obtain ⟨hN53, hX54⟩ := TermAt.next hA46 hX49 hc52 hB51
  have hL60 : Lim W H (execT T (ac.last)) := (lim_exec hL _)
  generalize hE60 : (execT T (ac.last)) = T60 at hN53 hL60
  have hM60 := hL60
  obtain ⟨⟨hwa60, hwb60⟩, ⟨hha60, hhb60⟩, ⟨hgw60, hgh60⟩, ⟨how60, hoh60⟩, ⟨⟨hcx60, hcX60⟩, hcy60, hcY60⟩, ⟨⟨hsx60, hsX60⟩, hsy60, hsY60⟩, ⟨⟨hax60, haX60⟩, hay60, haY60⟩, ⟨htp60, htb60, hbh60⟩, hbk60, hrp60⟩ := hM60
  obtain ⟨g60, o60, ba60, bn60, bc60, pa60, pn60, pc60, F160, F260, FB60, FP60, hI55⟩ := hN53
  obtain ⟨gv60, hgd61⟩ := hI55.g1.head
  have htg62 : Df t g60 := fun e => hI55.t1 (e ▸ hI55.g1.inF)
  refine yE (nB (yR0' ?_))
  have hX63 : Ch F w10 w56 := Ch.trans hX54 (Ch.refl (fun j => j = t) w56) (fun i _ h => h ▸ hFt)
  have hA64 : TermAt w56 t T60 (more F w10 w56) := ⟨_, _, _, _, _, _, _, _, _, _, _, _, hI55.mono (fun b hb => hb.elim .inl (fun h2 => .inr ⟨h2.1, by have := Ch.size (Ch.refl (fun j => j = t) w56); omega⟩)) (hI45.moreOk hX63.size)⟩
  subst hE60
  refine ⟨rfl, TermAt.eq' (hA64.mono (more_le hpre47.size) (hI.moreOk (Nat.le_trans hpre47.size hX63.size))) ?_, Ch.trans hpre47 hX63 iZ⟩
  simp only [actT, oscT, eq_false hpp0, hpp1, ↓reduceIte, Int.reduceEq, Int.reduceLT, Int.reduceLE, Bool.and_true, Bool.true_and, Bool.and_false, Bool.false_and, Bool.false_eq_true, Bool.true_eq_false, and_true, true_and, and_false, false_and, or_true, true_or, or_false, false_or]
 have hpp1 := hC44
 refine ysr <| yp 2 [] .z <| ye <| yc (rE ac.kind 2) (fun hC65 => ?_) fun hC65 => ?_
 ·have hpp2 := hC65
  refine x_region <| yp 2 [] (.a (hB14.cs 0 6) .z) ?_
  have hI66 := hI.scalar (T' := T) hS17 ht19 rfl rfl rfl rfl
  have hA67 : TermAt w10 t T F := ⟨_, _, _, _, _, _, _, _, _, _, _, _, hI66⟩
  have hpre68 : Ch F w w10 := hS17.mono (fun i _ h => h ▸ hFt)
  have hly69 := hB14.lt
  have hX70 : Ch F w10 w10 := Ch.trans (Ch.refl F w10) (Ch.refl (fun j => j = t) w10) (fun i _ h => h ▸ hFt)
  have hA71 : TermAt w10 t T (more F w10 w10) := ⟨_, _, _, _, _, _, _, _, _, _, _, _, hI66.mono (fun _ h => .inl h) (hI66.moreOk hX70.size)⟩
  have hVa72 := hV22.mono (K' := fun b => ¬ more F w10 w10 b ∧ b < w10.heap.size) (fun b hb => ⟨fun h => h.elim hb.1 (fun h => by have := hb.2; have := Ch.size hpre68; omega), by have := hb.2; have := Ch.size hX70; have := Ch.size hpre68; omega⟩)
  refine yo (yQ (esc_at hA71 hT21 hL  hVa72 hV8 hVb) ?_)
  rintro w78 ⟨hB73, hc74⟩
  obtain ⟨hN75, hX76⟩ := TermAt.next hA67 hX70 hc74 hB73
  have hL82 : Lim W H (escT T ac) := (lim_esc hL _)
  generalize hE82 : (escT T ac) = T82 at hN75 hL82
  have hM82 := hL82
  obtain ⟨⟨hwa82, hwb82⟩, ⟨hha82, hhb82⟩, ⟨hgw82, hgh82⟩, ⟨how82, hoh82⟩, ⟨⟨hcx82, hcX82⟩, hcy82, hcY82⟩, ⟨⟨hsx82, hsX82⟩, hsy82, hsY82⟩, ⟨⟨hax82, haX82⟩, hay82, haY82⟩, ⟨htp82, htb82, hbh82⟩, hbk82, hrp82⟩ := hM82
  obtain ⟨g82, o82, ba82, bn82, bc82, pa82, pn82, pc82, F182, F282, FB82, FP82, hI77⟩ := hN75
  obtain ⟨gv82, hgd83⟩ := hI77.g1.head
  have htg84 : Df t g82 := fun e => hI77.t1 (e ▸ hI77.g1.inF)
  refine yE (nB (yR0' ?_))
  have hX85 : Ch F w10 w78 := Ch.trans hX76 (Ch.refl (fun j => j = t) w78) (fun i _ h => h ▸ hFt)
  have hA86 : TermAt w78 t T82 (more F w10 w78) := ⟨_, _, _, _, _, _, _, _, _, _, _, _, hI77.mono (fun b hb => hb.elim .inl (fun h2 => .inr ⟨h2.1, by have := Ch.size (Ch.refl (fun j => j = t) w78); omega⟩)) (hI66.moreOk hX85.size)⟩
  subst hE82
  refine ⟨rfl, TermAt.eq' (hA86.mono (more_le hpre68.size) (hI.moreOk (Nat.le_trans hpre68.size hX85.size))) ?_, Ch.trans hpre68 hX85 iZ⟩
  simp only [actT, oscT, eq_false hpp0, eq_false hpp1, hpp2, ↓reduceIte, Int.reduceEq, Int.reduceLT, Int.reduceLE, Bool.and_true, Bool.true_and, Bool.and_false, Bool.false_and, Bool.false_eq_true, Bool.true_eq_false, and_true, true_and, and_false, false_and, or_true, true_or, or_false, false_or]
 have hpp2 := hC65
 refine ysr <| yp 2 [] .z <| ye <| yc (rE ac.kind 3) (fun hC87 => ?_) fun hC87 => ?_
 ·have hpp3 := hC87
  refine x_region <| yp 2 [] (.a (hB14.cs 0 6) .z) ?_
  have hI88 := hI.scalar (T' := T) hS17 ht19 rfl rfl rfl rfl
  have hA89 : TermAt w10 t T F := ⟨_, _, _, _, _, _, _, _, _, _, _, _, hI88⟩
  have hpre90 : Ch F w w10 := hS17.mono (fun i _ h => h ▸ hFt)
  have hly91 := hB14.lt
  have hX92 : Ch F w10 w10 := Ch.trans (Ch.refl F w10) (Ch.refl (fun j => j = t) w10) (fun i _ h => h ▸ hFt)
  have hA93 : TermAt w10 t T (more F w10 w10) := ⟨_, _, _, _, _, _, _, _, _, _, _, _, hI88.mono (fun _ h => .inl h) (hI88.moreOk hX92.size)⟩
  have hVa94 := hV22.mono (K' := fun b => ¬ more F w10 w10 b ∧ b < w10.heap.size) (fun b hb => ⟨fun h => h.elim hb.1 (fun h => by have := hb.2; have := Ch.size hpre90; omega), by have := hb.2; have := Ch.size hX92; have := Ch.size hpre90; omega⟩)
  refine yo (yQ (csi_at hA93 hT21 hL  hVa94 hV8 hVb) ?_)
  rintro w100 ⟨hB95, hc96⟩
  obtain ⟨hN97, hX98⟩ := TermAt.next hA89 hX92 hc96 hB95
  have hL104 : Lim W H (csiT T ac) := (lim_csi hL _)
  generalize hE104 : (csiT T ac) = T104 at hN97 hL104
  have hM104 := hL104
  obtain ⟨⟨hwa104, hwb104⟩, ⟨hha104, hhb104⟩, ⟨hgw104, hgh104⟩, ⟨how104, hoh104⟩, ⟨⟨hcx104, hcX104⟩, hcy104, hcY104⟩, ⟨⟨hsx104, hsX104⟩, hsy104, hsY104⟩, ⟨⟨hax104, haX104⟩, hay104, haY104⟩, ⟨htp104, htb104, hbh104⟩, hbk104, hrp104⟩ := hM104
  obtain ⟨g104, o104, ba104, bn104, bc104, pa104, pn104, pc104, F1104, F2104, FB104, FP104, hI99⟩ := hN97
  obtain ⟨gv104, hgd105⟩ := hI99.g1.head
  have htg106 : Df t g104 := fun e => hI99.t1 (e ▸ hI99.g1.inF)
  refine yE (nB (yR0' ?_))
  have hX107 : Ch F w10 w100 := Ch.trans hX98 (Ch.refl (fun j => j = t) w100) (fun i _ h => h ▸ hFt)
  have hA108 : TermAt w100 t T104 (more F w10 w100) := ⟨_, _, _, _, _, _, _, _, _, _, _, _, hI99.mono (fun b hb => hb.elim .inl (fun h2 => .inr ⟨h2.1, by have := Ch.size (Ch.refl (fun j => j = t) w100); omega⟩)) (hI88.moreOk hX107.size)⟩
  subst hE104
  refine ⟨rfl, TermAt.eq' (hA108.mono (more_le hpre90.size) (hI.moreOk (Nat.le_trans hpre90.size hX107.size))) ?_, Ch.trans hpre90 hX107 iZ⟩
  simp only [actT, oscT, eq_false hpp0, eq_false hpp1, eq_false hpp2, hpp3, ↓reduceIte, Int.reduceEq, Int.reduceLT, Int.reduceLE, Bool.and_true, Bool.true_and, Bool.and_false, Bool.false_and, Bool.false_eq_true, Bool.true_eq_false, and_true, true_and, and_false, false_and, or_true, true_or, or_false, false_or]
 have hpp3 := hC87
 refine ysr <| yp 2 [] .z <| ye <| yc (rE ac.kind 4) (fun hC109 => ?_) fun hC109 => ?_
 ·have hpp4 := hC109
  refine ysr <| yp 5 [] (.l (hB14.c 5) .z) <| yw [34] (rM 2 ((ac.text).size : Int)) (fun hC110 => ?_) fun hC110 => ?_
  ·have hpp5 := hC110
   refine yp 10 [] (.l (hB14.c 5) (.j 2 ((ac.text).size) .z)) <| yw [39] (rY ((((ac.text).extract 0 (2 : Int).toNat)).toList == ((⟨#[48, 59]⟩ : ByteArray)).toList)) (fun hC111 => ?_) fun hC111 => ?_
   ·have hpp6 := hC111
    refine yp 16 [] .z <| ye <| yct <| x_region <| yp 6 [] (.l (hB14.c 5) (.j 2 ((ac.text).size) .z)) <| yo (e_store 96 [.string ((ac.text).extract (2 : Int).toNat (ac.text).size)] none (by kernel_rfl) ht19 (of_ble (by kernel_rfl)) ?_)
    intro w112 hB113 hc114
    replace hB113 : Blk w112 t (TS.vals ({ T with title := ((ac.text).extract (2 : Int).toNat (ac.text).size) } : TS) g o (.slice ba bn bc) (.slice pa pn pc)) tTerm := Blk.to hB113 (by kernel_rfl)
    have hS116 := Ch.trans hS17 hc114 (fun i hi (h : i = t) => h)
    refine yE (nB (yR0' ?_))
    have hI121 := hI.scalar (T' := ({ T with title := ((ac.text).extract (2 : Int).toNat (ac.text).size) } : TS)) hS116 hB113 rfl rfl rfl rfl
    have hX122 : Ch F w w112 := Ch.trans (Ch.refl F w) hS116 (fun i _ h => h ▸ hFt)
    have hA123 : TermAt w112 t ({ T with title := ((ac.text).extract (2 : Int).toNat (ac.text).size) } : TS) (more F w w112) := ⟨_, _, _, _, _, _, _, _, _, _, _, _, hI121.mono (fun _ h => .inl h) (hI.moreOk hX122.size)⟩
    refine ⟨rfl, TermAt.eq' hA123 ?_, hX122⟩
    simp only [actT, oscT, eq_false hpp0, eq_false hpp1, eq_false hpp2, eq_false hpp3, hpp4, eq_true hpp5, hpp6, ↓reduceIte, Int.reduceEq, Int.reduceLT, Int.reduceLE, Bool.and_true, Bool.true_and, Bool.and_false, Bool.false_and, Bool.false_eq_true, Bool.true_eq_false, and_true, true_and, and_false, false_and, or_true, true_or, or_false, false_or]
   have hpp6 := hC111
   refine yp 16 [] (.l (hB14.c 5) (.j 2 ((ac.text).size) .z)) <| ye <| yc (rY ((((ac.text).extract 0 (2 : Int).toNat)).toList == ((⟨#[50, 59]⟩ : ByteArray)).toList)) (fun hC124 => ?_) fun hC124 => ?_
   ·have hpp7 := hC124
    refine x_region <| yp 6 [] (.l (hB14.c 5) (.j 2 ((ac.text).size) .z)) <| yo (e_store 96 [.string ((ac.text).extract (2 : Int).toNat (ac.text).size)] none (by kernel_rfl) ht19 (of_ble (by kernel_rfl)) ?_)
    intro w125 hB126 hc127
    replace hB126 : Blk w125 t (TS.vals ({ T with title := ((ac.text).extract (2 : Int).toNat (ac.text).size) } : TS) g o (.slice ba bn bc) (.slice pa pn pc)) tTerm := Blk.to hB126 (by kernel_rfl)
    have hS129 := Ch.trans hS17 hc127 (fun i hi (h : i = t) => h)
    refine yE (nB (yR0' ?_))
    have hI134 := hI.scalar (T' := ({ T with title := ((ac.text).extract (2 : Int).toNat (ac.text).size) } : TS)) hS129 hB126 rfl rfl rfl rfl
    have hX135 : Ch F w w125 := Ch.trans (Ch.refl F w) hS129 (fun i _ h => h ▸ hFt)
    have hA136 : TermAt w125 t ({ T with title := ((ac.text).extract (2 : Int).toNat (ac.text).size) } : TS) (more F w w125) := ⟨_, _, _, _, _, _, _, _, _, _, _, _, hI134.mono (fun _ h => .inl h) (hI.moreOk hX135.size)⟩
    refine ⟨rfl, TermAt.eq' hA136 ?_, hX135⟩
    simp only [actT, oscT, eq_false hpp0, eq_false hpp1, eq_false hpp2, eq_false hpp3, hpp4, eq_true hpp5, hpp6, hpp7, ↓reduceIte, Int.reduceEq, Int.reduceLT, Int.reduceLE, Bool.and_true, Bool.true_and, Bool.and_false, Bool.false_and, Bool.false_eq_true, Bool.true_eq_false, and_true, true_and, and_false, false_and, or_true, true_or, or_false, false_or]
   have hpp7 := hC124
   refine x_skip (nB (yR0' ?_))
   have hI137 := hI.scalar (T' := T) hS17 ht19 rfl rfl rfl rfl
   have hX138 : Ch F w w10 := Ch.trans (Ch.refl F w) hS17 (fun i _ h => h ▸ hFt)
   have hA139 : TermAt w10 t T (more F w w10) := ⟨_, _, _, _, _, _, _, _, _, _, _, _, hI137.mono (fun _ h => .inl h) (hI.moreOk hX138.size)⟩
   refine ⟨rfl, TermAt.eq' hA139 ?_, hX138⟩
   simp only [actT, oscT, eq_false hpp0, eq_false hpp1, eq_false hpp2, eq_false hpp3, hpp4, eq_true hpp5, hpp6, hpp7, ↓reduceIte, Int.reduceEq, Int.reduceLT, Int.reduceLE, Bool.and_true, Bool.true_and, Bool.and_false, Bool.false_and, Bool.false_eq_true, Bool.true_eq_false, and_true, true_and, and_false, false_and, or_true, true_or, or_false, false_or]
  have hpp5 := hC110
  refine yp 16 [] .z <| ye <| ycf <| x_skip (nB (yR0' ?_))
  have hI140 := hI.scalar (T' := T) hS17 ht19 rfl rfl rfl rfl
  have hX141 : Ch F w w10 := Ch.trans (Ch.refl F w) hS17 (fun i _ h => h ▸ hFt)
  have hA142 : TermAt w10 t T (more F w w10) := ⟨_, _, _, _, _, _, _, _, _, _, _, _, hI140.mono (fun _ h => .inl h) (hI.moreOk hX141.size)⟩
  refine ⟨rfl, TermAt.eq' hA142 ?_, hX141⟩
  simp only [actT, oscT, eq_false hpp0, eq_false hpp1, eq_false hpp2, eq_false hpp3, hpp4, eq_false hpp5, ↓reduceIte, Int.reduceEq, Int.reduceLT, Int.reduceLE, Bool.and_true, Bool.true_and, Bool.and_false, Bool.false_and, Bool.false_eq_true, Bool.true_eq_false, and_true, true_and, and_false, false_and, or_true, true_or, or_false, false_or]
 have hpp4 := hC109
 refine x_skip (nB (yR0' ?_))
 have hI143 := hI.scalar (T' := T) hS17 ht19 rfl rfl rfl rfl
 have hX144 : Ch F w w10 := Ch.trans (Ch.refl F w) hS17 (fun i _ h => h ▸ hFt)
 have hA145 : TermAt w10 t T (more F w w10) := ⟨_, _, _, _, _, _, _, _, _, _, _, _, hI143.mono (fun _ h => .inl h) (hI.moreOk hX144.size)⟩
 refine ⟨rfl, TermAt.eq' hA145 ?_, hX144⟩
 simp only [actT, oscT, eq_false hpp0, eq_false hpp1, eq_false hpp2, eq_false hpp3, eq_false hpp4, ↓reduceIte, Int.reduceEq, Int.reduceLT, Int.reduceLE, Bool.and_true, Bool.true_and, Bool.and_false, Bool.false_and, Bool.false_eq_true, Bool.true_eq_false, and_true, true_and, and_false, false_and, or_true, true_or, or_false, false_or]
end Go.Proofs.YteoejhjfbfacdaaDoor.X
namespace Go.Proofs.YteoejhjfbfacdaaDoor.X
open Go Go.RowKit Go.Proofs.YteoejhjfbfacdaaDoor
def feedT (T : TS) (c : Int) : TS := (feedP T.parser c).2.foldl actT { T with parser := (feedP T.parser c).1 }
def writeN (T : TS) (s : ByteArray) : Nat → TS
 | 0 => T
 | k + 1 => feedT (writeN T s k) (bt s ((k : Nat) : Int))
def writeT (T : TS) (s : ByteArray) : TS := writeN T s s.size
structure AcOk (a : Ac) : Prop where
 n : a.params.length ≤ 8
 b : ∀ x ∈ a.params, 0 ≤ x ∧ x ≤ 9999
 t : a.text.size ≤ 40
theorem acok_nil {k r l : Int} {m u : ByteArray} (h : u.size ≤ 40) : AcOk ⟨k, r, l, m, [], u⟩ := ⟨by simp, (fun x hx => by cases hx), h⟩
theorem plim_at (s : Int) : (atP s).lim := ⟨u0_ok, (by decide : (0 : Nat) ≤ 2), (by decide : (0 : Nat) ≤ 40), (by decide : (0 : Nat) ≤ 8), fun x hx => by cases hx⟩
def FedOk (r : PS × List Ac) : Prop := r.1.lim ∧ ∀ a ∈ r.2, AcOk a
theorem fedok_nil {p : PS} (h : p.lim) : FedOk (p, []) := ⟨h, fun a ha => by cases ha⟩
theorem fedok_one {p : PS} {a : Ac} (h : p.lim) (ha : AcOk a) : FedOk (p, [a]) := ⟨h, fun b hb => by obtain rfl := List.mem_singleton.1 hb; exact ha⟩
theorem acok_acP (l : List Int) : ∀ a ∈ l.map acP, AcOk a := fun a ha => by
 obtain ⟨r, _, rfl⟩ := List.mem_map.1 ha
 exact acok_nil (by decide)
theorem acok_app {l m : List Ac} (h : ∀ a ∈ l, AcOk a) (h' : ∀ a ∈ m, AcOk a) : ∀ a ∈ l ++ m, AcOk a := fun a ha => (List.mem_append.1 ha).elim (h a) (h' a)
theorem ite_fed {P : PS × List Ac → Prop} {c : Prop} [Decidable c] {a b : PS × List Ac} (h1 : c → P a) (h2 : ¬ c → P b) : P (if c then a else b) := by
 by_cases h : c
 ·rw [if_pos h]; exact h1 h
 ·rw [if_neg h]; exact h2 h
theorem fed_finish {p : PS} (h : p.lim) (s : Int) : FedOk (finishP p s) := fedok_one (plim_at 0) (acok_nil h.t)
theorem fed_escape {p : PS} (h : p.lim) (c : Int) : FedOk (escapeP p c) := by
 unfold escapeP
 refine ite_fed (fun _ => fedok_nil ?_) fun _ => ite_fed (fun _ => fedok_nil (plim_at 3)) fun _ => ite_fed (fun _ => fedok_nil (plim_at 5)) fun _ => ite_fed (fun _ => fedok_nil (plim_at 6)) fun _ => fedok_one (plim_at 0) (acok_nil (by decide))
 split
 ·exact ⟨h.u, by show (p.marks ++ bytesOf [c]).size ≤ 2; rw [ByteArray.size_append, bytesOf_one]; omega, h.t, h.n, h.b⟩
 ·exact ⟨h.u, h.m, h.t, h.n, h.b⟩
theorem fed_string {p : PS} (h : p.lim) (c : Int) : FedOk (stringP p c) := by
 unfold stringP
 refine ite_fed (fun _ => fedok_nil ⟨h.u, h.m, h.t, h.n, h.b⟩) fun _ => ite_fed (fun _ => fed_finish h 5) fun _ => ite_fed (fun _ => fedok_nil (plim_at 0)) fun _ => ite_fed (fun h3 => fedok_nil ⟨h.u, h.m, ?_, h.n, h.b⟩) fun _ => fedok_nil h
 show (p.text ++ bytesOf [c]).size ≤ 40
 rw [ByteArray.size_append, bytesOf_one]; omega
theorem someL_bd {l : List Int} (h : ∀ x ∈ l, 0 ≤ x ∧ x ≤ 9999) : ∀ x ∈ someL l, 0 ≤ x ∧ x ≤ 9999 := fun x hx => by
 unfold someL at hx
 split at hx
 ·simp at hx; omega
 ·exact h x hx
theorem fed_csi {p : PS} (h : p.lim) (c : Int) : FedOk (csiP p c) := by
 have h1 := someL_len p.params
 have h2 := someL_bd h.b
 have h3 := lastI_bd h.b
 have h4 := h.n
 unfold csiP
 refine ite_fed (fun hc => fedok_nil ⟨h.u, h.m, h.t, ?_, ?_⟩) fun _ => ite_fed (fun _ => fedok_nil ?_) fun _ => ite_fed (fun _ => ite_fed (fun _ => fedok_nil (plim_at 0)) fun _ => fedok_one (plim_at 0) ⟨h.n, h.b, (by decide : (0 : Nat) ≤ 40)⟩) fun _ => ite_fed (fun _ => fedok_nil ⟨h.u, h.m, h.t, h.n, h.b⟩) fun h5 => fedok_nil ⟨h.u, ?_, h.t, h.n, h.b⟩
 ·show (setLast _ _).length ≤ 8
  unfold setLast; rw [List.length_set]; omega
 ·intro x hx
  have hx' : x ∈ (someL p.params).set ((someL p.params).length - 1) (min (10 * lastI (someL p.params) + (c - 48)) 9999) := hx
  rcases List.mem_or_eq_of_mem_set hx' with hx | rfl
  ·exact h2 x hx
  ·omega
 ·split
  ·refine ⟨h.u, h.m, h.t, ?_, ?_⟩
   ·show (someL p.params ++ [0]).length ≤ 8
    rw [List.length_append]; simp only [List.length_cons, List.length_nil]; omega
   ·intro x hx
    rcases List.mem_append.1 hx with hx | hx
    ·exact h2 x hx
    ·simp at hx; omega
  ·exact ⟨h.u, h.m, h.t, by show (someL p.params).length ≤ 8; omega, h2⟩
 ·show (p.marks ++ bytesOf [c]).size ≤ 2
  have := h.m
  rw [ByteArray.size_append, bytesOf_one]; omega
theorem feedU_ok {u : US} (h : u.ok) {c : Int} (hc : 0 ≤ c ∧ c ≤ 255) : (feedU u c).1.ok := by
 have hb : ∀ x ∈ u.pend ++ [c], 0 ≤ x ∧ x ≤ 255 := fun x hx => (List.mem_append.1 hx).elim (h.pend x) (fun h => by simp at h; omega)
 exact mkU_ok (fun x hx => itU_bytes hb 4 x (List.mem_of_mem_take hx)) (by rw [List.length_take]; omega)
theorem fed_ground {p : PS} (h : p.lim) {c : Int} (hc : 0 ≤ c ∧ c ≤ 255) : FedOk (groundP p c) := by
 unfold groundP
 refine ite_fed (fun _ => ite_fed (fun _ => ⟨plim_at 1, acok_acP _⟩) fun _ => ite_fed (fun _ => ⟨⟨u0_ok, h.m, h.t, h.n, h.b⟩, acok_app (acok_acP _) fun a ha => by obtain rfl := List.mem_singleton.1 ha; exact acok_nil (by decide)⟩) fun _ => ⟨⟨feedU_ok u0_ok hc, h.m, h.t, h.n, h.b⟩, acok_app (acok_acP _) (acok_acP _)⟩) fun _ => ⟨⟨feedU_ok h.u hc, h.m, h.t, h.n, h.b⟩, acok_acP _⟩
theorem fed_feed1 {p : PS} (h : p.lim) {c : Int} (hc : 0 ≤ c ∧ c ≤ 255) : FedOk (feedP1 p c) := by
 unfold feedP1
 exact ite_fed (fun _ => fed_ground h hc) fun _ => ite_fed (fun _ => fed_string h c) fun _ => ite_fed (fun _ => fedok_nil (plim_at 0)) fun _ => ite_fed (fun _ => fedok_nil (plim_at 1)) fun _ => ite_fed (fun _ => fedok_one h (acok_nil (by decide))) fun _ => ite_fed (fun _ => fedok_nil h) fun _ => ite_fed (fun _ => fed_csi h c) fun _ => fed_escape h c
theorem fed_feed {p : PS} (h : p.lim) {c : Int} (hc : 0 ≤ c ∧ c ≤ 255) : FedOk (feedP p c) := by
 unfold feedP
 exact ite_fed (fun _ => ite_fed (fun _ => fed_finish h _) fun _ => fed_feed1 (plim_at 1) hc) fun _ => fed_feed1 h hc
theorem fed_len {p : PS} (h : p.lim) (c : Int) : (feedP p c).2.length ≤ 8 := by
 have hf : (flushL p.utf).length ≤ 3 := by unfold flushL; rw [List.length_replicate]; have := h.u.n; omega
 have hu := feedU_len h.u c
 have h0 := feedU_len u0_ok c
 have l1 : ∀ (q : PS) (s : Int), (finishP q s).2.length ≤ 8 := fun _ _ => by simp [finishP]
 have l2 : ∀ q : PS, (escapeP q c).2.length ≤ 8 := fun q => by
  unfold escapeP
  exact ite_fed (P := fun r => r.2.length ≤ 8) (fun _ => by simp) fun _ => ite_fed (P := fun r => r.2.length ≤ 8) (fun _ => by simp) fun _ => ite_fed (P := fun r => r.2.length ≤ 8) (fun _ => by simp) fun _ => ite_fed (P := fun r => r.2.length ≤ 8) (fun _ => by simp) fun _ => by simp
 have l3 : ∀ q : PS, (stringP q c).2.length ≤ 8 := fun q => by
  unfold stringP
  exact ite_fed (P := fun r => r.2.length ≤ 8) (fun _ => by simp) fun _ => ite_fed (P := fun r => r.2.length ≤ 8) (fun _ => l1 _ _) fun _ => ite_fed (P := fun r => r.2.length ≤ 8) (fun _ => by simp) fun _ => ite_fed (P := fun r => r.2.length ≤ 8) (fun _ => by simp) fun _ => by simp
 have l4 : ∀ q : PS, (csiP q c).2.length ≤ 8 := fun q => by
  unfold csiP
  exact ite_fed (P := fun r => r.2.length ≤ 8) (fun _ => by simp) fun _ => ite_fed (P := fun r => r.2.length ≤ 8) (fun _ => by simp) fun _ => ite_fed (P := fun r => r.2.length ≤ 8) (fun _ => ite_fed (P := fun r => r.2.length ≤ 8) (fun _ => by simp) fun _ => by simp) fun _ => ite_fed (P := fun r => r.2.length ≤ 8) (fun _ => by simp) fun _ => by simp
 have l5 : (groundP p c).2.length ≤ 8 := by
  unfold groundP
  exact ite_fed (P := fun r => r.2.length ≤ 8) (fun _ => ite_fed (P := fun r => r.2.length ≤ 8) (fun _ => by simp; omega) fun _ => ite_fed (P := fun r => r.2.length ≤ 8) (fun _ => by simp; omega) fun _ => by simp; omega) fun _ => by simp; omega
 have l6 : ∀ q : PS, (groundP q c).2.length ≤ 8 → (feedP1 q c).2.length ≤ 8 := fun q hq => by
  unfold feedP1
  exact ite_fed (P := fun r => r.2.length ≤ 8) (fun _ => hq) fun _ => ite_fed (P := fun r => r.2.length ≤ 8) (fun _ => l3 _) fun _ => ite_fed (P := fun r => r.2.length ≤ 8) (fun _ => by simp) fun _ => ite_fed (P := fun r => r.2.length ≤ 8) (fun _ => by simp) fun _ => ite_fed (P := fun r => r.2.length ≤ 8) (fun _ => by simp) fun _ => ite_fed (P := fun r => r.2.length ≤ 8) (fun _ => by simp) fun _ => ite_fed (P := fun r => r.2.length ≤ 8) (fun _ => l4 _) fun _ => l2 _
 have l7 : (groundP (atP 1) c).2.length ≤ 8 := by
  have hz : (flushL (atP 1).utf).length ≤ 3 := by simp [flushL, atP]
  have hv : (feedU (atP 1).utf c).2.length ≤ 4 := h0
  unfold groundP
  exact ite_fed (P := fun r => r.2.length ≤ 8) (fun _ => ite_fed (P := fun r => r.2.length ≤ 8) (fun _ => by simp; omega) fun _ => ite_fed (P := fun r => r.2.length ≤ 8) (fun _ => by simp; omega) fun _ => by simp; omega) fun _ => by simp; omega
 unfold feedP
 exact ite_fed (P := fun r => r.2.length ≤ 8) (fun _ => ite_fed (P := fun r => r.2.length ≤ 8) (fun _ => l1 _ _) fun _ => l6 _ l7) fun _ => l6 _ l5
end Go.Proofs.YteoejhjfbfacdaaDoor.X
namespace Go.Proofs.YteoejhjfbfacdaaDoor.X
open Go Go.RowKit Go.Proofs.YteoejhjfbfacdaaDoor
theorem TermIn.newPs {w w' : World} {t g o : Nat} {ba : Option Addr} {bn bc : Nat} {pa : Option Addr} {pn pc : Nat} {T : TS} {F F1 F2 FB FP K : Nat → Prop} (h : TermIn w t g o ba bn bc pa pn pc T F F1 F2 FB FP) (hc : Ch (fun j => j = t) w w') {p' : PS} {po : Option Nat} {pn' pc' : Nat}
  (hb : Blk w' t (({ T with parser := p' } : TS).vals g o (.slice ba bn bc) (.slice (po.map at0) pn' pc')) tTerm) (hp : IntsAt w' .i64 po pn' pc' p'.params K) (hK : ∀ b, po = some b → FP b ∨ (¬ F b ∧ gTop ≤ b)) :
  TermIn w' t g o ba bn bc (po.map at0) pn' pc' ({ T with parser := p' } : TS) (fun b => F b ∨ po = some b) F1 F2 FB (fun b => FP b ∨ po = some b) := by
 obtain ⟨rows, hL, hl⟩ := h.bk
 have key : ∀ (X : Nat → Prop), (∀ b, X b → F b) → (∀ b, X b → ¬ FP b) → ∀ b, X b → ¬ (FP b ∨ po = some b) := fun X h1 h2 b hx hy => hy.elim (h2 b hx) fun e => (hK b e).elim (h2 b hx) fun h3 => h3.1 (h1 b hx)
 exact
 {blk := hb
  g1 := h.g1.ch hc fun b hb e => h.t1 (e ▸ hb)
  g2 := h.g2.ch hc fun b hb e => h.t2 (e ▸ hb)
  bk := ⟨rows, hL.ch hc fun b hb e => h.tB (e ▸ hb), hl⟩
  bcap := h.bcap
  ps := ⟨hp.1, hp.2.1, (fun e => hp.2.2.1 (by cases po <;> simp_all)), fun ad e => by
   cases po with
   | none => cases e
   | some b => cases e; exact .inr rfl⟩
  pz := ⟨po, rfl⟩
  bz := h.bz
  t1 := h.t1, t2 := h.t2, tB := h.tB
  tP := key (fun b => b = t) (fun b e => e ▸ h.inF.1) (fun b e => e ▸ h.tP) t rfl
  a12 := h.a12, a1B := h.a1B, a2B := h.a2B
  a1P := key F1 h.inF.2.1 h.a1P
  a2P := key F2 h.inF.2.2.1 h.a2P
  inF := ⟨.inl h.inF.1, fun b hb => .inl (h.inF.2.1 b hb), fun b hb => .inl (h.inF.2.2.1 b hb), fun b hb => .inl (h.inF.2.2.2.1 b hb), fun b hb => hb.imp (h.inF.2.2.2.2 b) id⟩
  lt := fun b hb => hb.elim (fun hb => Nat.lt_of_lt_of_le (h.lt b hb) hc.size) fun e => (hp.2.2.2 b e).2
  hi := fun b hb => hb.elim (h.hi b) fun e => (hK b e).elim (fun hb => h.hi b (h.inF.2.2.2.2 b hb)) fun h3 => h3.2 }
theorem TermIn.ints {w : World} {t g o : Nat} {ba : Option Addr} {bn bc : Nat} {pa : Option Addr} {pn pc : Nat} {T : TS} {F F1 F2 FB FP : Nat → Prop} (h : TermIn w t g o ba bn bc pa pn pc T F F1 F2 FB FP) :
  ∃ po : Option Nat, pa = po.map at0 ∧ IntsAt w .i64 po pn pc T.parser.params (fun b => po = some b) ∧ ∀ b, po = some b → FP b := by
 obtain ⟨po, rfl⟩ := h.pz
 have hf : ∀ b, po = some b → FP b := fun b e => by subst e; exact h.ps.2.2.2 _ rfl
 refine ⟨po, rfl, ⟨h.ps.1, h.ps.2.1, fun e => h.ps.2.2.1 (by rw [e]; rfl), fun b e => ⟨e, h.lt b (h.inF.2.2.2.2 b (hf b e))⟩⟩, hf⟩
theorem ActsAt.at {w : World} {b n c : Nat} {l : List Ac} {K : Nat → Prop} (h : ActsAt w (some b) n c l K) {j : Nat} (hj : j < n) : ∃ ac ao an cc, l[j]? = some ac ∧ IntsAt w .i64 ao an cc ac.params K ∧
  w.cell? ⟨b, (0 + ((j : Nat) : Int).toNat * 6), none⟩ = some (.int .i64 ac.kind) ∧ w.cell? ⟨b, (0 + ((j : Nat) : Int).toNat * 6) + 1, none⟩ = some (.int .i32 ac.rune) ∧ w.cell? ⟨b, (0 + ((j : Nat) : Int).toNat * 6) + 2, none⟩ = some (.int .u8 ac.last) ∧
  w.cell? ⟨b, (0 + ((j : Nat) : Int).toNat * 6) + 3, none⟩ = some (.string ac.marks) ∧ w.cell? ⟨b, (0 + ((j : Nat) : Int).toNat * 6) + 4, none⟩ = some (.slice (ao.map at0) an cc) ∧ w.cell? ⟨b, (0 + ((j : Nat) : Int).toNat * 6) + 5, none⟩ = some (.string ac.text) := by
 obtain ⟨vss, h1, h2, h3⟩ := h.ex
 have hl := h.len
 have hj1 : j < l.length := by omega
 have hj2 : j < vss.length := by omega
 obtain ⟨ao, an, cc, e, hv⟩ := h3 j hj1 hj2
 have h6 : ∀ v ∈ vss, v.length = 6 := fun v hv => by
  obtain ⟨i, hi, rfl⟩ := List.getElem_of_mem hv
  exact (h3 i (by omega) hi).len
 have key : ∀ k, k < 6 → ∀ v, (l[j].vals (.slice (ao.map at0) an cc))[k]? = some v → w.cell? ⟨b, 0 + (j * 6 + k), none⟩ = some v := fun k hk v hv => rd_at h1.rd _ _ (by rw [flatten_at h6 hj2 hk, e]; exact hv)
 refine ⟨l[j], ao, an, cc, List.getElem?_eq_getElem hj1, hv, ?_⟩
 rw [Int.toNat_natCast, Nat.zero_add]
 have k0 := key 0 (by decide) _ rfl
 have k1 := key 1 (by decide) _ rfl
 have k2 := key 2 (by decide) _ rfl
 have k3 := key 3 (by decide) _ rfl
 have k4 := key 4 (by decide) _ rfl
 have k5 := key 5 (by decide) _ rfl
 simp only [Nat.zero_add, Nat.add_zero] at k0 k1 k2 k3 k4 k5
 exact ⟨k0, k1, k2, k3, k4, k5⟩
theorem acts_next {l : List Ac} {j : Nat} {ac : Ac} (h : l[j]? = some ac) (T : TS) : (l.take (j + 1)).foldl actT T = actT ((l.take j).foldl actT T) ac := by
 obtain ⟨hj, rfl⟩ := List.getElem?_eq_some_iff.1 h
 rw [List.take_succ_eq_append_getElem hj, List.foldl_append]
 rfl
theorem more_in {F F2 : Nat → Prop} {w u v : World} (h : ∀ b, F2 b → more F w u b) (h1 : w.heap.size ≤ u.heap.size) (h2 : u.heap.size ≤ v.heap.size) : ∀ b, more F2 u v b → more F w v b := fun b hb => hb.elim (fun hb => (h b hb).imp id fun h => ⟨h.1, by omega⟩) fun hb => .inr ⟨by omega, hb.2⟩
theorem ch_in {F F2 : Nat → Prop} {w u v : World} (hc : Ch F w u) (h : ∀ b, F2 b → more F w u b) (hc2 : Ch F2 u v) : Ch F w v := hc.trans hc2 fun i hi h2 => (h i h2).elim id fun h => by omega
theorem lim_acts {W H : Int} {T : TS} (h : Lim W H T) (l : List Ac) : Lim W H (l.foldl actT T) := by
 induction l generalizing T with
 | nil => exact h
 | cons a l ih => exact ih (lim_act h a)
theorem lim_parser {W H : Int} {T : TS} (h : Lim W H T) (p : PS) : Lim W H { T with parser := p } := h.flags rfl rfl rfl rfl rfl rfl rfl rfl rfl
theorem lim_feed {W H : Int} {T : TS} (h : Lim W H T) (c : Int) : Lim W H (feedT T c) := lim_acts (lim_parser h _) _
theorem lim_write {W H : Int} {T : TS} (h : Lim W H T) (s : ByteArray) (k : Nat) : Lim W H (writeN T s k) := by
 induction k with
 | zero => exact h
 | succ k ih => exact lim_feed ih _
theorem ite_p {c : Prop} [Decidable c] {a b : TS} {p : PS} (h1 : a.parser = p) (h2 : b.parser = p) : (if c then a else b).parser = p := by
 split <;> assumption
theorem scrollT_p (T : TS) (n : Int) : (scrollT T n).parser = T.parser := ite_p rfl rfl
theorem homeT_p (T : TS) (x y : Int) : (homeT T x y).parser = T.parser := ite_p rfl rfl
theorem downT_p (T : TS) : (downT T).parser = T.parser := ite_p (scrollT_p T 1) (ite_p rfl rfl)
theorem upT_p (T : TS) : (upT T).parser = T.parser := ite_p rfl (ite_p rfl rfl)
theorem printT_p (T : TS) (r : Int) : (printT T r).parser = T.parser := by
 have hA : ∀ T, (printA T).parser = T.parser := fun T => ite_p (downT_p _) rfl
 have hB : ∀ T n, (printB T n).parser = T.parser := fun T n => ite_p (ite_p (downT_p _) rfl) rfl
 have hC : ∀ T n, (printC T n).parser = T.parser := fun T n => ite_p rfl rfl
 have hE : ∀ T n, (printE T n).parser = T.parser := fun T n => ite_p rfl rfl
 unfold printT
 rw [hE]
 exact (hC _ _).trans ((hB _ _).trans (hA _))
theorem execT_p (T : TS) (c : Int) : (execT T c).parser = T.parser :=
 ite_p rfl (ite_p rfl (ite_p (downT_p T) (ite_p (downT_p T) (ite_p (downT_p T) (ite_p rfl (ite_p rfl (ite_p rfl rfl)))))))
theorem escT_p (T : TS) (a : Ac) : (escT T a).parser = T.parser :=
 ite_p (ite_p rfl rfl) (ite_p (ite_p rfl rfl) (ite_p rfl (ite_p rfl (ite_p rfl (ite_p (downT_p T) (ite_p (downT_p T) (ite_p (upT_p T) (ite_p rfl (ite_p rfl rfl)))))))))
theorem replyT_p (T : TS) (s : ByteArray) : (replyT T s).parser = T.parser := ite_p rfl rfl
theorem tellT_p (T : TS) (c k : Int) : (tellT T c k).parser = T.parser := ite_p rfl (ite_p rfl (ite_p rfl (ite_p (replyT_p _ _) (ite_p (replyT_p _ _) (ite_p (replyT_p _ _) rfl)))))
theorem eraseN_p (T : TS) (k x y : Int) (s : Sty) (a : Int) (j : Nat) : (eraseN T k x y s a j).parser = T.parser := by
 induction j with
 | zero => rfl
 | succ j ih => exact (ite_p rfl (ite_p rfl (ite_p rfl rfl)) : (erase1 (eraseN T k x y s a j) k x y s (a + (j : Int))).parser = _).trans ih
theorem eraseT_p (T : TS) (k a b : Int) : (eraseT T k a b).parser = T.parser := eraseN_p _ _ _ _ _ _ _
theorem editT_p (T : TS) (c n : Int) (l : List Int) : (editT T c n l).parser = T.parser :=
 ite_p rfl (ite_p rfl (ite_p rfl (ite_p (eraseT_p _ _ _ _) (ite_p (ite_p (eraseT_p _ _ _ _) (eraseT_p _ _ _ _)) (ite_p (ite_p rfl rfl) (ite_p (ite_p rfl rfl) (ite_p (scrollT_p _ _) (ite_p rfl (tellT_p _ _ _)))))))))
theorem plainT_p (T : TS) (c : Int) (l : List Int) : (plainT T c l).parser = T.parser :=
 ite_p rfl (ite_p rfl (ite_p rfl (ite_p rfl (ite_p rfl (ite_p (homeT_p _ _ _) (ite_p (homeT_p _ _ _) (ite_p rfl (ite_p (ite_p (homeT_p _ _ _) rfl) (editT_p _ _ _ _)))))))))
theorem turnT_p (T : TS) (b : Bool) : (turnT T b).parser = T.parser := ite_p rfl (ite_p rfl rfl)
theorem modeT_p (T : TS) (n : Int) (b : Bool) : (modeT T n b).parser = T.parser := ite_p (homeT_p _ _ _) (ite_p rfl (ite_p rfl (ite_p (turnT_p _ _) rfl)))
theorem modes_p (T : TS) (l : List Int) (b : Bool) : (l.foldl (fun T n => modeT T n b) T).parser = T.parser := by
 induction l generalizing T with
 | nil => rfl
 | cons n l ih => exact (ih _).trans (modeT_p _ _ _)
theorem csiT_p (T : TS) (a : Ac) : (csiT T a).parser = T.parser := ite_p (plainT_p _ _ _) (ite_p (modes_p _ _ _) rfl)
theorem actT_p (T : TS) (a : Ac) : (actT T a).parser = T.parser := ite_p (printT_p _ _) (ite_p (execT_p _ _) (ite_p (escT_p _ _) (ite_p (csiT_p _ _) (ite_p (ite_p rfl rfl) rfl))))
theorem acts_p (T : TS) (l : List Ac) : (l.foldl actT T).parser = T.parser := by
 induction l generalizing T with
 | nil => rfl
 | cons a l ih => exact (ih _).trans (actT_p _ _)
theorem feedT_p (T : TS) (c : Int) : (feedT T c).parser = (feedP T.parser c).1 := acts_p _ _
theorem plim_write {T : TS} (h : T.parser.lim) (s : ByteArray) (k : Nat) : (writeN T s k).parser.lim := by
 induction k with
 | zero => exact h
 | succ k ih => exact (feedT_p _ _) ▸ (fed_feed ih (bt_range s _)).1
end Go.Proofs.YteoejhjfbfacdaaDoor.X
namespace Go.Proofs.YteoejhjfbfacdaaDoor.X
open Go Go.RowKit Go.Proofs.YteoejhjfbfacdaaDoor
def zeroT : TS := { grid := ⟨0, 0, []⟩, other := ⟨0, 0, []⟩, cursor := cur0, saved := cur0, away := cur0, top := 0, bot := 0, tabs := fun _ => false, wrap := false, origin := false, insert := false, hidden := false, draw0 := false, draw1 := false, shift := false, alt := false, title := ByteArray.empty, back := [], parser := ⟨0, ⟨0, 0, 0, 0⟩, ByteArray.empty, [], ByteArray.empty, 0⟩, reply := ByteArray.empty }
set_option maxHeartbeats 4000000 in
theorem tnew_any (p1 p2 : Int) (w : World) (hT : LT w) (h7 : gTop ≤ w.heap.size) : Calls Tryd.prog 11 [.int .i64 p1, .int .i64 p2].toArray w fun e w' => ∃ t, e = .returned (.pointer (some ⟨t, 0, none⟩)) ∧ TermAt w' t (startT zeroT p1 p2) (fun b => w.heap.size ≤ b ∧ b < w'.heap.size) ∧ Ch (fun _ => False) w w' := by
 refine yA Tryd.func11 rfl <| ysr <| yp 1 [] .z <| ye <| ysr <| yp 1 [] .z <| yo (yN [.pointer none, .pointer none, iX 0, iX 0, .bool false, .bool false, .bool false, .bool false, iX 0, iX 0, iX 0, iX 0, .bool false, .bool false, .bool false, .bool false, iX 0, iX 0, iX 0, iX 0, .bool false, .bool false, .bool false, .bool false, iX 0, iX 0, iX 0, iX 0, .bool false, .bool false, .bool false, .bool false, .bool false, .bool false, .bool false, .bool false, .bool false, .bool false, .bool false, .bool false, .bool false, .bool false, .bool false, .bool false, .bool false, .bool false, .bool false, .bool false, .bool false, .bool false, .bool false, .bool false, .bool false, .bool false, .bool false, .bool false, .bool false, .bool false, .bool false, .bool false, .bool false, .bool false, .bool false, .bool false, .bool false, .bool false, .bool false, .bool false, .bool false, .bool false, .bool false, .bool false, .bool false, .bool false, .bool false, .bool false, .bool false, .bool false, .bool false, .bool false, .bool false, .bool false, .bool false, .bool false, .bool false, .bool false, .bool false, .bool false, .bool false, .bool false, .bool false, .bool false, .bool false, .bool false, .bool false, .bool false, .string ByteArray.empty, .slice none 0 0, iX 0, uX 0, uX 0, uX 0, iX 0, .string ByteArray.empty, .slice none 0 0, .string ByteArray.empty, iX 0, .string ByteArray.empty] 41 fun w10 b11 hb12 hz13 hB14 hc15 => ?_)
 have hlo16 : w.heap.size ≤ b11 := by rw [hb12]; exact Ch.size (Up.refl w.heap.size w)
 have hu17 := Up.step (Up.refl w.heap.size w) hc15 iZ
 refine yp 3 [] .z <| ye <| ysr <| yp 3 [] .z ?_
 have hBz : Blk w10 b11 (zeroT.valsG (.pointer none) (.pointer none) (.slice none 0 0) (.slice none 0 0)) tTerm := Blk.to hB14 (by kernel_rfl)
 have hszb := Ch.size hu17
 have hPz : PsAt w10 b11 none 0 0 zeroT.parser.params (fun _ => False) := ⟨⟨Rd.nil _ _, rfl, fun _ => rfl, fun ad e => by cases e⟩, ⟨none, rfl⟩, fun b h => h.elim⟩
 have hT20 := lt_ch (Up.ch hu17) hT (fun _ h => h.elim)
 refine yo (yQ (start_any hBz hPz (by omega) hT20 (by decide) p1 p2) ?_)
 rintro w21 ⟨hA18, hc19⟩
 refine ye <| ysr <| yp 2 [] .z <| ye <| x_ret (yR1 (pX b11) ?_)
 refine ⟨b11, rfl, TermAt.mono hA18 (fun b hb => ?_) (fun b hb => ⟨hb.2, by omega⟩), Ch.trans (Up.ch hu17) hc19 (fun i hi h => ?_)⟩
 ·have hz := Ch.size hc19
  rcases hb with rfl | hb | hb
  ·exact ⟨by omega, by have := hBz.lt; omega⟩
  ·exact hb.elim
  exact ⟨by omega, hb.2⟩
 rcases h with rfl | h
 ·omega
 exact h
theorem feed_anyX {X : PS × List Ac} {w : World} {po : Option Nat} {pn pc : Nat} {p : PS} {c : Int} (hX : feedP p c = X) (hP : IntsAt w .i64 po pn pc p.params (fun b => po = some b)) (hcB : 0 ≤ c ∧ c ≤ 255) (hU : UTabs w) (hp : p.lim) (hn8 : pn ≤ 8) : Calls Tryd.prog 25 [.agg #[.int .i64 p.state, .int .u8 p.utf.b0, .int .u8 p.utf.b1, .int .u8 p.utf.b2, .int .i64 p.utf.n, .string p.marks, .slice (po.map at0) pn pc, .string p.text, .int .i64 p.within], .int .u8 c].toArray w fun e w' => Fed w w' e po X.1 X.2 := by
 subst hX
 exact feed_any hP c hcB hU hp hn8
set_option maxHeartbeats 4000000 in
theorem write_at {w : World} {t : Nat} {W H : Int} {T : TS} {F : Nat → Prop} (hA0 : TermAt w t T F) (hT : LT w) (hL : Lim W H T) (hp : T.parser.lim) (s : ByteArray) (hs : s.size ≤ 1000000) : Calls Tryd.prog 12 [.pointer (some ⟨t, 0, none⟩), .string s].toArray w fun e w' => e = .returned (.tuple #[]) ∧ TermAt w' t (writeT T s) (more F w w') ∧ Ch F w w' := by
 obtain ⟨g, o, ba, bn, bc, pa, pn, pc, F1, F2, FB, FP, hI⟩ := hA0
 have hA0 : TermAt w t T F := ⟨g, o, ba, bn, bc, pa, pn, pc, F1, F2, FB, FP, hI⟩
 have hFt := hI.inF.1
 obtain ⟨gv, hgd⟩ := hI.g1.head
 have htg : Df t g := fun e => hI.t1 (e ▸ hI.g1.inF)
 obtain ⟨⟨hw1, hw2⟩, ⟨hh1, hh2⟩, hll, hall⟩ := hI.g1.ok
 have hL0 := hL
 obtain ⟨⟨hwa, hwb⟩, ⟨hha, hhb⟩, ⟨hgw, hgh⟩, ⟨how, hoh⟩, ⟨⟨hcx, hcX⟩, hcy, hcY⟩, ⟨⟨hsx, hsX⟩, hsy, hsY⟩, ⟨⟨hax, haX⟩, hay, haY⟩, ⟨htp, htb, hbh⟩, hbk, hrp⟩ := hL0
 refine yA Tryd.func12 rfl <| ysr <| yp 3 [] .z <| ye <| x_block ?_
 have hX10 : Ch F w w := Ch.trans (Ch.refl F w) (Ch.refl (fun j => j = t) w) (fun i _ h => h ▸ hFt)
 have hA11 : TermAt w t T (more F w w) := ⟨_, _, _, _, _, _, _, _, _, _, _, _, hI.mono (fun _ h => .inl h) (hI.moreOk hX10.size)⟩
 refine ykeep [0, 1, 9, 10] (f' := [(0, pX t), (1, .string s), (9, iX ((s).size : Int)), (10, iX 0)]) <| x_loop (σ := Nat) (fun k => [(0, pX t), (1, .string s), (9, iX ((s).size : Int)), (10, iX ((k : Nat) : Int))]) (fun k u => k ≤ s.size ∧ (TermAt u t (writeN T s k) (more F w u) ∧ Ch F w u)) (fun k => s.size - k) 0 rfl ?_ ?_
 ·exact ⟨Nat.zero_le _, (TermAt.eq' hA11 rfl), hX10⟩
 intro k w12 hI13 K14 hL15
 obtain ⟨hk, hN16, hX17⟩ := hI13
 have hT19 := lt_ch hX17 hT (fun b hb => hI.hi b hb)
 have hL21 : Lim W H (writeN T s k) := (lim_write hL s k)
 generalize hE21 : (writeN T s k) = T21 at hN16 hL21
 have hM21 := hL21
 obtain ⟨⟨hwa21, hwb21⟩, ⟨hha21, hhb21⟩, ⟨hgw21, hgh21⟩, ⟨how21, hoh21⟩, ⟨⟨hcx21, hcX21⟩, hcy21, hcY21⟩, ⟨⟨hsx21, hsX21⟩, hsy21, hsY21⟩, ⟨⟨hax21, haX21⟩, hay21, haY21⟩, ⟨htp21, htb21, hbh21⟩, hbk21, hrp21⟩ := hM21
 obtain ⟨g21, o21, ba21, bn21, bc21, pa21, pn21, pc21, F121, F221, FB21, FP21, hI20⟩ := hN16
 obtain ⟨gv21, hgd22⟩ := hI20.g1.head
 have htg23 : Df t g21 := fun e => hI20.t1 (e ▸ hI20.g1.inF)
 obtain ⟨po24, hpo24, hpi24, hpf24⟩ := hI20.ints
 subst hpo24
 refine ysr <| yp 1 [] .z <| ye <| ys <| yc (rL ((k : Nat) : Int) ((s).size : Int)) (fun hC25 => ?_) fun hC25 => ?_
 ·refine yk <| ys <| x_block <| ysr <| yp 2 [] .z <| ye <| ysr <| yp 1 [] .z <| ye <| ys <| yD [8, 14] fun w26 hH27 hc28 => ?_
  have hS29 := Ch.trans (Ch.refl (fun j => j = t) w12) hc28 eZ
  have hT30 := lt_ch hc28 hT19 (fun _ h => h.elim)
  have ht31 := hI20.blk.ch hc28 id
  have hpi33 := hpi24.ch hc28 iZ
  refine yd (uL 0 8) [] (.a (ht31.cs 98 9) (.i ((k : Nat) : Int) ((s).size) .z)) ?_
  have hI34 := hI20.scalar (T' := T21) hS29 ht31 rfl rfl rfl rfl
  have hI44 := hI20.scalar (T' := T21) hS29 ht31 rfl rfl rfl rfl
  have hX45 : Ch F w w26 := Ch.trans hX17 hS29 (fun i _ h => h ▸ hFt)
  have hA46 : TermAt w26 t T21 (more F w w26) := ⟨_, _, _, _, _, _, _, _, _, _, _, _, hI44.mono (fun b hb => hb.elim .inl (fun h2 => .inr ⟨h2.1, by have := Ch.size hS29; omega⟩)) (hI.moreOk hX45.size)⟩
  have hI47 := hI44.mono (F' := more F w w26) (fun b hb => hb.elim .inl (fun h2 => .inr ⟨h2.1, by have := Ch.size hS29; omega⟩)) (hI.moreOk hX45.size)
  obtain ⟨X48, hX49⟩ : ∃ X, feedP T21.parser (bt s ((k : Nat) : Int)) = X := ⟨_, rfl⟩
  have hpl : (T21.parser).lim := (hE21 ▸ plim_write hp s k)
  have hfok := fed_feed hpl (bt_range s ((k : Nat) : Int))
  have hfl := fed_len hpl (bt s ((k : Nat) : Int))
  rw [hX49] at hfok hfl
  refine yK 8 (yC ((feed_anyX hX49 (p := T21.parser) hpi33 (bt_range s _) hT30.ut hpl (by have := hpl.n; have := hpi33.2.1; omega))) ?_)
  rintro _ w54 ⟨qo35, qn36, qc37, ao38, an39, ac40, rfl, hq41, ha42, hc43⟩
  refine ⟨_, rfl, ?_⟩
  have hsz1 := Ch.size hc43
  have hT56 := lt_ch hc43 hT30 (fun _ h => h.elim)
  have ht57 := ht31.ch hc43 id
  refine x_killed <| yd (uL 9 5) [] .z ?_
  have hI63 := hI47.same hc43 iZ
  refine yK 14 (e_store 98 [iX X48.1.state, uX X48.1.utf.b0, uX X48.1.utf.b1, uX X48.1.utf.b2, iX X48.1.utf.n, .string X48.1.marks, .slice (qo35.map at0) qn36 qc37, .string X48.1.text, iX X48.1.within] none (by kernel_rfl) ht57 (of_ble (by kernel_rfl)) ?_)
  intro w60 hB61 hc62
  replace hB61 : Blk w60 t (TS.vals ({ T21 with parser := X48.1 } : TS) g21 o21 (.slice ba21 bn21 bc21) (.slice (qo35.map at0) qn36 qc37)) tTerm := Blk.to hB61 (by kernel_rfl)
  have hqK : ∀ b, qo35 = some b → po24 = some b ∨ (w26.heap.size ≤ b ∧ b < w54.heap.size) := fun b e => (hq41.2.2.2 b e).1
  have hFlt : ∀ b, more F w w26 b → b < w26.heap.size ∧ gTop ≤ b := hI.moreOk hX45.size
  have hq2 : ∀ b, qo35 = some b → ¬ b = t := fun b e h => (hqK b e).elim (fun h2 => hI63.tP (h ▸ hpf24 b h2)) (fun h2 => by have := (hFlt t (.inl hFt)).1; omega)
  have hq3 := hq41.ch hc62 (fun b hb (h : b = t) => hb.elim (fun h2 => hI63.tP (h ▸ hpf24 b h2)) (fun h2 => by have := (hFlt t (.inl hFt)).1; omega))
  have hI5 := hI63.newPs hc62 (p' := X48.1) hB61 hq3 (fun b e => (hqK b e).imp (fun h => hpf24 b h) (fun h => ⟨fun h2 => by have := (hFlt b h2).1; omega, by have := (hFlt t (.inl hFt)).2; have := (hFlt t (.inl hFt)).1; omega⟩))
  obtain ⟨F2, hF2⟩ : ∃ F' : Nat → Prop, F' = fun b => more F w w26 b ∨ qo35 = some b := ⟨_, rfl⟩
  rw [← hF2] at hI5
  have hF2in : ∀ b, F2 b → more F w w60 b := fun b hb => by
   rw [hF2] at hb
   rcases hb with hb | hb
   ·exact hb.imp id fun h => ⟨h.1, by have := Ch.size hc62; omega⟩
   rcases hqK b hb with h | h
   ·exact (hI63.inF.2.2.2.2 b (hpf24 b h)).imp id fun h => ⟨h.1, by have := Ch.size hc62; omega⟩
   exact .inr ⟨by have := Ch.size hX45; omega, by have := Ch.size hc62; omega⟩
  have hcw2 : Ch F w w60 := Ch.trans (Ch.trans hX45 hc43 eZ) hc62 (fun i _ h => h ▸ hFt)
  have hKlt : ∀ b, ((w26.heap.size ≤ b ∧ b < w54.heap.size) ∧ qo35 ≠ some b) → b < w60.heap.size := fun b hb => by have := Ch.size hc62; omega
  have hKF : ∀ b, ((w26.heap.size ≤ b ∧ b < w54.heap.size) ∧ qo35 ≠ some b) → ¬ F2 b := fun b hb h => by
   rw [hF2] at h
   rcases h with h | h
   ·have := (hFlt b h).1; omega
   exact hb.2 h
  have hT65 := lt_ch hc62 hT56 (fun b (h : b = t) => h ▸ hI.hi t hFt)
  have hac66 := ha42.ch hc62 (fun b hb (h : b = t) => by have := (hFlt t (.inl hFt)).1; omega)
  have hFt2 : F2 t := hI5.inF.1
  have hA5 : TermAt w60 t ({ T21 with parser := X48.1 } : TS) F2 := ⟨_, _, _, _, _, _, _, _, _, _, _, _, hI5⟩
  have hL67 : Lim W H ({ T21 with parser := X48.1 } : TS) := lim_parser hL21 _
  generalize hE68 : ({ T21 with parser := X48.1 } : TS) = T68 at hI5 hA5 hL67
  obtain ⟨gv68, hgd69⟩ := hI5.g1.head
  have htg70 : Df t g21 := fun e => hI5.t1 (e ▸ hI5.g1.inF)
  refine x_killed <| yd [15] [] .z <| yDe (nS ?_)
  refine ysr <| yp 3 [] .z <| ye <| x_block ?_
  rcases ao38 with _ | ab
  ·have hnl : X48.2.length = an39 := hac66.len
   have hn0 : an39 = 0 := by
    obtain ⟨vss, h1, h2, h3⟩ := hac66.ex
    exact (h1.2.2.2.1 rfl).1
   have hX71 : Ch F2 w60 w60 := Ch.trans (Ch.refl F2 w60) (Ch.refl (fun j => j = t) w60) (fun i _ h => h ▸ hFt2)
   have hA72 : TermAt w60 t T68 (more F2 w60 w60) := ⟨_, _, _, _, _, _, _, _, _, _, _, _, hI5.mono (fun _ h => .inl h) (hI5.moreOk hX71.size)⟩
   refine ykeep [0, 1, 9, 10, 27, 28, 29] (f' := [(0, pX t), (1, .string s), (9, iX ((s).size : Int)), (10, iX ((k : Nat) : Int)), (27, .slice none an39 ac40), (28, iX ((an39 : Nat) : Int)), (29, iX 0)]) <| x_loop (σ := Nat) (fun j => [(0, pX t), (1, .string s), (9, iX ((s).size : Int)), (10, iX ((k : Nat) : Int)), (27, .slice none an39 ac40), (28, iX ((an39 : Nat) : Int)), (29, iX ((j : Nat) : Int))]) (fun j v => j ≤ an39 ∧ (TermAt v t ((X48.2.take j).foldl actT T68) (more F2 w60 v) ∧ Ch F2 w60 v)) (fun j => an39 - j) 0 rfl ?_ ?_
   ·exact ⟨Nat.zero_le _, (TermAt.eq' hA72 rfl), hX71⟩
   intro j w73 hI74 K75 hL76
   obtain ⟨hj, hN77, hX78⟩ := hI74
   have hL83 : Lim W H ((X48.2.take j).foldl actT T68) := (lim_acts hL67 _)
   generalize hE83 : ((X48.2.take j).foldl actT T68) = T83 at hN77 hL83
   have hM83 := hL83
   obtain ⟨⟨hwa83, hwb83⟩, ⟨hha83, hhb83⟩, ⟨hgw83, hgh83⟩, ⟨how83, hoh83⟩, ⟨⟨hcx83, hcX83⟩, hcy83, hcY83⟩, ⟨⟨hsx83, hsX83⟩, hsy83, hsY83⟩, ⟨⟨hax83, haX83⟩, hay83, haY83⟩, ⟨htp83, htb83, hbh83⟩, hbk83, hrp83⟩ := hM83
   obtain ⟨g83, o83, ba83, bn83, bc83, pa83, pn83, pc83, F183, F283, FB83, FP83, hI82⟩ := hN77
   obtain ⟨gv83, hgd84⟩ := hI82.g1.head
   have htg85 : Df t g83 := fun e => hI82.t1 (e ▸ hI82.g1.inF)
   refine ysr <| yp 1 [] .z <| ye <| ys <| yc (rL ((j : Nat) : Int) ((an39 : Nat) : Int)) (fun hC86 => ?_) fun hC86 => ?_
   ·exfalso; omega
   have hjn : j = an39 := by omega
   have hX87 : Ch F2 w60 w73 := Ch.trans hX78 (Ch.refl (fun j => j = t) w73) (fun i _ h => h ▸ hFt2)
   have hA88 : TermAt w73 t T83 (more F2 w60 w73) := ⟨_, _, _, _, _, _, _, _, _, _, _, _, hI82.mono (fun b hb => hb.elim .inl (fun h2 => .inr ⟨h2.1, by have := Ch.size (Ch.refl (fun j => j = t) w73); omega⟩)) (hI5.moreOk hX87.size)⟩
   have hN89 := hA88.mono (more_in hF2in (Ch.size hcw2) (Ch.size hX87)) (hI.moreOk (Nat.le_trans (Ch.size hcw2) (Ch.size hX87)))
   have hX90 := ch_in hcw2 hF2in hX87
   have hL92 : Lim W H T83 := hL83
   generalize hE92 : T83 = T92 at hN89 hL92
   have hM92 := hL92
   obtain ⟨⟨hwa92, hwb92⟩, ⟨hha92, hhb92⟩, ⟨hgw92, hgh92⟩, ⟨how92, hoh92⟩, ⟨⟨hcx92, hcX92⟩, hcy92, hcY92⟩, ⟨⟨hsx92, hsX92⟩, hsy92, hsY92⟩, ⟨⟨hax92, haX92⟩, hay92, haY92⟩, ⟨htp92, htb92, hbh92⟩, hbk92, hrp92⟩ := hM92
   obtain ⟨g92, o92, ba92, bn92, bc92, pa92, pn92, pc92, F192, F292, FB92, FP92, hI91⟩ := hN89
   obtain ⟨gv92, hgd93⟩ := hI91.g1.head
   have htg94 : Df t g92 := fun e => hI91.t1 (e ▸ hI91.g1.inF)
   refine x_exit (eS (then_exit (block_exit (nB (nS ?_)))))
   refine x_region <| yp 2 [] (.q6 (((k : Nat) : Int) + 1) .z) ?_
   have hX95 : Ch F w w73 := Ch.trans hX90 (Ch.refl (fun j => j = t) w73) (fun i _ h => h ▸ hFt)
   have hA96 : TermAt w73 t T92 (more F w w73) := ⟨_, _, _, _, _, _, _, _, _, _, _, _, hI91.mono (fun b hb => hb.elim .inl (fun h2 => .inr ⟨h2.1, by have := Ch.size (Ch.refl (fun j => j = t) w73); omega⟩)) (hI.moreOk hX95.size)⟩
   refine yE (fun a ha => hL15 (k + 1) _ ⟨(by omega), (TermAt.eq' hA96 (by subst hE92; subst hE83; subst hE68; subst hE21; show feedT _ _ = _; unfold feedT; rw [hX49, hjn, ← hnl, List.take_length])), hX95⟩ (by show s.size - (k + 1) < s.size - k; omega) a (ha.kp [0, 1, 9, 10]))
  have hnl : X48.2.length = an39 := hac66.len
  have hX97 : Ch F2 w60 w60 := Ch.trans (Ch.refl F2 w60) (Ch.refl (fun j => j = t) w60) (fun i _ h => h ▸ hFt2)
  have hA98 : TermAt w60 t T68 (more F2 w60 w60) := ⟨_, _, _, _, _, _, _, _, _, _, _, _, hI5.mono (fun _ h => .inl h) (hI5.moreOk hX97.size)⟩
  refine ykeep [0, 1, 9, 10, 27, 28, 29] (f' := [(0, pX t), (1, .string s), (9, iX ((s).size : Int)), (10, iX ((k : Nat) : Int)), (27, .slice (some ⟨ab, 0, none⟩) an39 ac40), (28, iX ((an39 : Nat) : Int)), (29, iX 0)]) <| x_loop (σ := Nat) (fun j => [(0, pX t), (1, .string s), (9, iX ((s).size : Int)), (10, iX ((k : Nat) : Int)), (27, .slice (some ⟨ab, 0, none⟩) an39 ac40), (28, iX ((an39 : Nat) : Int)), (29, iX ((j : Nat) : Int))]) (fun j v => j ≤ an39 ∧ (TermAt v t ((X48.2.take j).foldl actT T68) (more F2 w60 v) ∧ Ch F2 w60 v)) (fun j => an39 - j) 0 rfl ?_ ?_
  ·exact ⟨Nat.zero_le _, (TermAt.eq' hA98 rfl), hX97⟩
  intro j w99 hI100 K101 hL102
  obtain ⟨hj, hN103, hX104⟩ := hI100
  have hT106 := lt_ch hX104 hT65 (fun b hb => hI5.hi b hb)
  have hac107 := hac66.ch hX104 (fun b hb h => hKF b hb h)
  have hL109 : Lim W H ((X48.2.take j).foldl actT T68) := (lim_acts hL67 _)
  generalize hE109 : ((X48.2.take j).foldl actT T68) = T109 at hN103 hL109
  have hM109 := hL109
  obtain ⟨⟨hwa109, hwb109⟩, ⟨hha109, hhb109⟩, ⟨hgw109, hgh109⟩, ⟨how109, hoh109⟩, ⟨⟨hcx109, hcX109⟩, hcy109, hcY109⟩, ⟨⟨hsx109, hsX109⟩, hsy109, hsY109⟩, ⟨⟨hax109, haX109⟩, hay109, haY109⟩, ⟨htp109, htb109, hbh109⟩, hbk109, hrp109⟩ := hM109
  obtain ⟨g109, o109, ba109, bn109, bc109, pa109, pn109, pc109, F1109, F2109, FB109, FP109, hI108⟩ := hN103
  obtain ⟨gv109, hgd110⟩ := hI108.g1.head
  have htg111 : Df t g109 := fun e => hI108.t1 (e ▸ hI108.g1.inF)
  refine ysr <| yp 1 [] .z <| ye <| ys <| yc (rL ((j : Nat) : Int) ((an39 : Nat) : Int)) (fun hC112 => ?_) fun hC112 => ?_
  ·obtain ⟨ac, ao, an, cc, hac0, hVa, hk0, hk1, hk2, hk3, hk4, hk5⟩ := hac107.at (j := j) (by omega)
   have hok := hfok.2 ac (List.mem_of_getElem? hac0)
   refine yk <| ys <| x_block <| ysr <| yp 2 [] (.i ((j : Nat) : Int) (an39) (.m hk0 (.m hk1 (.m hk2 (.m hk3 (.m hk4 (.m hk5 (.e .z)))))))) <| yo (yN [iX 0, rX 0, uX 0, .string ByteArray.empty, .slice none 0 0, .string ByteArray.empty] 73 fun w113 b114 hb115 hz116 hB117 hc118 => ?_)
   have hlo119 : w99.heap.size ≤ b114 := by rw [hb115]; exact Ch.size (Ch.refl (fun j => j = t) w99)
   have hS120 := Ch.trans (Ch.refl (fun j => j = t) w99) hc118 eZ
   have hT121 := lt_ch hc118 hT106 (fun _ h => h.elim)
   have ht123 := hI108.blk.ch hc118 id
   have hac125 := hVa.ch hc118 iZ
   refine yo (yS hB117 fun w126 hB127 hc128 => ?_)
   have hS129 := Ch.trans hS120 hc128 (fun i hi (h : i = b114) => by omega)
   have hT130 := lt_ch hc128 hT121 (fun b (h : b = b114) => by have := hI.hi t hFt; have := hI108.blk.lt; omega)
   have ht132 := ht123.ch hc128 (fun (h : t = b114) => by have := hI108.blk.lt; omega)
   have hac134 := hac125.ch hc128 (fun b hb (h : b = b114) => by have := hKlt b hb; have := Ch.size hX104; omega)
   replace hB127 : Blk w126 b114 [iX ac.kind, rX ac.rune, uX ac.last, .string ac.marks, .slice (ao.map at0) an cc, .string ac.text] _ := Blk.to hB127 (by kernel_rfl)
   refine ye <| x_region <| yp 2 [] (.a (hB127.cs 0 6) .z) ?_
   have hI136 := hI108.scalar (T' := T109) hS129 ht132 rfl rfl rfl rfl
   have hX137 : Ch F2 w60 w126 := Ch.trans hX104 hS129 (fun i _ h => h ▸ hFt2)
   have hA138 : TermAt w126 t T109 (more F2 w60 w126) := ⟨_, _, _, _, _, _, _, _, _, _, _, _, hI136.mono (fun b hb => hb.elim .inl (fun h2 => .inr ⟨h2.1, by have := Ch.size hS129; omega⟩)) (hI5.moreOk hX137.size)⟩
   have hVb135 := hac134.mono (K' := fun b => ¬ more F2 w60 w126 b ∧ b < w126.heap.size) (fun b hb => ⟨fun h => h.elim (hKF b hb) (fun h => by have := hKlt b hb; omega), by have := hKlt b hb; have := Ch.size hX137; omega⟩)
   have hI139 := hI108.scalar (T' := T109) hS129 ht132 rfl rfl rfl rfl
   have hX140 : Ch F2 w60 w126 := Ch.trans hX104 hS129 (fun i _ h => h ▸ hFt2)
   have hA141 : TermAt w126 t T109 (more F2 w60 w126) := ⟨_, _, _, _, _, _, _, _, _, _, _, _, hI139.mono (fun b hb => hb.elim .inl (fun h2 => .inr ⟨h2.1, by have := Ch.size hS129; omega⟩)) (hI5.moreOk hX140.size)⟩
   refine yo (yQ (act_at hA141 hT130 hL109  hVb135 (by have := hok.n; have := hVb135.2.1; omega) hok.b (by have := hok.t; omega)) ?_)
   rintro w147 ⟨hB142, hc143⟩
   obtain ⟨hN144, hX145⟩ := TermAt.next hA5 hX140 hc143 hB142
   have hL150 : Lim W H (actT T109 ac) := (lim_act hL109 ac)
   generalize hE150 : (actT T109 ac) = T150 at hN144 hL150
   have hM150 := hL150
   obtain ⟨⟨hwa150, hwb150⟩, ⟨hha150, hhb150⟩, ⟨hgw150, hgh150⟩, ⟨how150, hoh150⟩, ⟨⟨hcx150, hcX150⟩, hcy150, hcY150⟩, ⟨⟨hsx150, hsX150⟩, hsy150, hsY150⟩, ⟨⟨hax150, haX150⟩, hay150, haY150⟩, ⟨htp150, htb150, hbh150⟩, hbk150, hrp150⟩ := hM150
   obtain ⟨g150, o150, ba150, bn150, bc150, pa150, pn150, pc150, F1150, F2150, FB150, FP150, hI146⟩ := hN144
   obtain ⟨gv150, hgd151⟩ := hI146.g1.head
   have htg152 : Df t g150 := fun e => hI146.t1 (e ▸ hI146.g1.inF)
   refine yE (nB (nS ?_))
   refine x_region <| yp 2 [] (.q6 (((j : Nat) : Int) + 1) .z) ?_
   have hX153 : Ch F2 w60 w147 := Ch.trans hX145 (Ch.refl (fun j => j = t) w147) (fun i _ h => h ▸ hFt2)
   have hA154 : TermAt w147 t T150 (more F2 w60 w147) := ⟨_, _, _, _, _, _, _, _, _, _, _, _, hI146.mono (fun b hb => hb.elim .inl (fun h2 => .inr ⟨h2.1, by have := Ch.size (Ch.refl (fun j => j = t) w147); omega⟩)) (hI5.moreOk hX153.size)⟩
   refine yE (fun a ha => hL102 (j + 1) _ ⟨(by omega), (TermAt.eq' hA154 (by subst hE150; subst hE109; exact acts_next hac0 _)), hX153⟩ (by show an39 - (j + 1) < an39 - j; omega) a (ha.kp [0, 1, 9, 10, 27, 28, 29]))
  have hjn : j = an39 := by omega
  have hX155 : Ch F2 w60 w99 := Ch.trans hX104 (Ch.refl (fun j => j = t) w99) (fun i _ h => h ▸ hFt2)
  have hA156 : TermAt w99 t T109 (more F2 w60 w99) := ⟨_, _, _, _, _, _, _, _, _, _, _, _, hI108.mono (fun b hb => hb.elim .inl (fun h2 => .inr ⟨h2.1, by have := Ch.size (Ch.refl (fun j => j = t) w99); omega⟩)) (hI5.moreOk hX155.size)⟩
  have hN157 := hA156.mono (more_in hF2in (Ch.size hcw2) (Ch.size hX155)) (hI.moreOk (Nat.le_trans (Ch.size hcw2) (Ch.size hX155)))
  have hX158 := ch_in hcw2 hF2in hX155
  have hL160 : Lim W H T109 := hL109
  generalize hE160 : T109 = T160 at hN157 hL160
  have hM160 := hL160
  obtain ⟨⟨hwa160, hwb160⟩, ⟨hha160, hhb160⟩, ⟨hgw160, hgh160⟩, ⟨how160, hoh160⟩, ⟨⟨hcx160, hcX160⟩, hcy160, hcY160⟩, ⟨⟨hsx160, hsX160⟩, hsy160, hsY160⟩, ⟨⟨hax160, haX160⟩, hay160, haY160⟩, ⟨htp160, htb160, hbh160⟩, hbk160, hrp160⟩ := hM160
  obtain ⟨g160, o160, ba160, bn160, bc160, pa160, pn160, pc160, F1160, F2160, FB160, FP160, hI159⟩ := hN157
  obtain ⟨gv160, hgd161⟩ := hI159.g1.head
  have htg162 : Df t g160 := fun e => hI159.t1 (e ▸ hI159.g1.inF)
  refine x_exit (eS (then_exit (block_exit (nB (nS ?_)))))
  refine x_region <| yp 2 [] (.q6 (((k : Nat) : Int) + 1) .z) ?_
  have hX163 : Ch F w w99 := Ch.trans hX158 (Ch.refl (fun j => j = t) w99) (fun i _ h => h ▸ hFt)
  have hA164 : TermAt w99 t T160 (more F w w99) := ⟨_, _, _, _, _, _, _, _, _, _, _, _, hI159.mono (fun b hb => hb.elim .inl (fun h2 => .inr ⟨h2.1, by have := Ch.size (Ch.refl (fun j => j = t) w99); omega⟩)) (hI.moreOk hX163.size)⟩
  refine yE (fun a ha => hL15 (k + 1) _ ⟨(by omega), (TermAt.eq' hA164 (by subst hE160; subst hE109; subst hE68; subst hE21; show feedT _ _ = _; unfold feedT; rw [hX49, hjn, ← hnl, List.take_length])), hX163⟩ (by show s.size - (k + 1) < s.size - k; omega) a (ha.kp [0, 1, 9, 10]))
 have hkn : k = s.size := by omega
 refine x_exit (eS (then_exit (block_exit (yR0' ?_))))
 have hX165 : Ch F w w12 := Ch.trans hX17 (Ch.refl (fun j => j = t) w12) (fun i _ h => h ▸ hFt)
 have hA166 : TermAt w12 t T21 (more F w w12) := ⟨_, _, _, _, _, _, _, _, _, _, _, _, hI20.mono (fun b hb => hb.elim .inl (fun h2 => .inr ⟨h2.1, by have := Ch.size (Ch.refl (fun j => j = t) w12); omega⟩)) (hI.moreOk hX165.size)⟩
 subst hE21
 subst hkn
 exact ⟨rfl, hA166, hX165⟩
end Go.Proofs.YteoejhjfbfacdaaDoor.X
namespace Go.Proofs.YteoejhjfbfacdaaDoor.X
open Go Go.RowKit Go.Proofs.YteoejhjfbfacdaaDoor
theorem take_next {α : Type} {l m : List α} {k : Nat} (h : l.take k = m.take k) (h1 : k < l.length) (h2 : k < m.length) (he : l[k] = m[k]) : l.take (k + 1) = m.take (k + 1) := by
 rw [List.take_succ_eq_append_getElem h1, List.take_succ_eq_append_getElem h2, h, he]
theorem ne_at {α : Type} {l m : List α} {k : Nat} (h1 : k < l.length) (h2 : k < m.length) (he : l[k] ≠ m[k]) : l ≠ m := fun e => he (by subst e; rfl)
theorem gc_at {l : List Cel} {k : Nat} (h : k < l.length) : gc l ((k : Nat) : Int) = l[k] := by simp [gc, List.getD, List.getElem?_eq_getElem h]
theorem getD_at {l : List Int} {k : Nat} (h : k < l.length) : l.getD k 0 = l[k] := by simp [List.getD, List.getElem?_eq_getElem h]
def eqLB (l m : List Cel) : Bool := decide (l = m)
def eqRB (l m : List (List Cel)) : Bool := decide (l = m)
theorem eqLB_t {l m : List Cel} (h : l = m) : eqLB l m = true := decide_eq_true h
theorem eqLB_f {l m : List Cel} (h : l ≠ m) : eqLB l m = false := decide_eq_false h
theorem eqRB_t {l m : List (List Cel)} (h : l = m) : eqRB l m = true := decide_eq_true h
theorem eqRB_f {l m : List (List Cel)} (h : l ≠ m) : eqRB l m = false := decide_eq_false h
def grB (G G' : Gr) : Bool := decide (G.w = G'.w) && (decide (G.h = G'.h) && eqRB G.lines G'.lines)
theorem grB_t {G G' : Gr} (h1 : G.w = G'.w) (h2 : G.h = G'.h) (h3 : G.lines = G'.lines) : grB G G' = true := by simp [grB, h1, h2, eqRB_t h3]
theorem grB_refl (G : Gr) : grB G G = true := grB_t rfl rfl rfl
theorem grB_w {G G' : Gr} (h : G.w ≠ G'.w) : grB G G' = false := by simp [grB, h]
theorem grB_h {G G' : Gr} (h : G.h ≠ G'.h) : grB G G' = false := by simp [grB, h]
theorem grB_l {G G' : Gr} (h : G.lines ≠ G'.lines) : grB G G' = false := by simp [grB, eqRB_f h]
theorem rows_line {rows : List Row} {L : List (List Cel)} (h : rows.map Row.l = L) {k : Nat} {x : Row} (hx : rows[k]? = some x) : ∃ hk : k < L.length, L[k] = x.l := by
 subst h
 obtain ⟨hk, rfl⟩ := List.getElem?_eq_some_iff.1 hx
 exact ⟨by simpa using hk, by simp⟩
theorem rows_some {rows : List Row} {k : Nat} (h : k < rows.length) : ∃ x, rows[k]? = some x := ⟨_, List.getElem?_eq_getElem h⟩
theorem rows_cell {w : World} {b off : Nat} {rows : List Row} (h : Rd w (some ⟨b, off, none⟩) (rows.map Row.val)) {k : Nat} {x : Row} (hx : rows[k]? = some x) : w.cell? ⟨b, off + ((k : Nat) : Int).toNat * 1, none⟩ = some x.val := by
 rw [Int.toNat_natCast, Nat.mul_one]
 exact rd_at h k _ (by rw [List.getElem?_map, hx]; rfl)
theorem cel_and (a b : Cel) : (((a.rune : Int) == b.rune) && (((a.sty.bold == b.sty.bold) && ((a.sty.under == b.sty.under) && ((a.sty.turned == b.sty.turned) && (((a.sty.fore : Int) == b.sty.fore) && (((a.sty.back : Int) == b.sty.back) && true))))) && true)) = (a == b) := beq_cel a b
def tabsB (f g : Nat → Bool) : Bool := (List.range 60).foldr (fun i r => (f i == g i) && r) true
theorem tabsB_iff {f g : Nat → Bool} : tabsB f g = true ↔ ∀ i, i < 60 → f i = g i := by
 unfold tabsB
 have key : ∀ l : List Nat, l.foldr (fun i r => (f i == g i) && r) true = true ↔ ∀ i ∈ l, f i = g i := fun l => by
  induction l with
  | nil => simp
  | cons a l ih => simp [ih]
 rw [key]
 simp
def intsB (l m : List Int) : Bool := decide (l = m)
def psB (p q : PS) : Bool :=
 decide (p.state = q.state) && (decide (p.within = q.within) && ((p.marks.toList == q.marks.toList) && ((p.text.toList == q.text.toList) && (decide (p.utf.n = q.utf.n) && ((((p.utf.b0 : Int) == q.utf.b0) && (((p.utf.b1 : Int) == q.utf.b1) && (((p.utf.b2 : Int) == q.utf.b2) && true))) && intsB p.params q.params)))))
theorem intsB_t {l m : List Int} (h : l = m) : intsB l m = true := decide_eq_true h
theorem intsB_f {l m : List Int} (h : l ≠ m) : intsB l m = false := decide_eq_false h
theorem psB_refl (p : PS) : psB p p = true := by simp [psB, intsB]
abbrev curB (c d : Cur) : Bool := ((c.x : Int) == d.x) && (((c.y : Int) == d.y) && ((c.late == d.late) && (((c.sty.bold == d.sty.bold) && ((c.sty.under == d.sty.under) && ((c.sty.turned == d.sty.turned) && (((c.sty.fore : Int) == d.sty.fore) && (((c.sty.back : Int) == d.sty.back) && true))))) && true)))
def alikeB (T U : TS) : Bool :=
 grB T.grid U.grid && (grB T.other U.other && (eqRB T.back U.back && (curB T.cursor U.cursor && (curB T.away U.away && (curB T.saved U.saved && (decide (T.top = U.top) && (decide (T.bot = U.bot) && (tabsB T.tabs U.tabs && ((T.wrap == U.wrap) && ((T.origin == U.origin) && ((T.insert == U.insert) && ((T.hidden == U.hidden) &&
  (((T.draw0 == U.draw0) && ((T.draw1 == U.draw1) && true)) && ((T.shift == U.shift) && ((T.alt == U.alt) && ((T.title.toList == U.title.toList) && ((T.reply.toList == U.reply.toList) && psB T.parser U.parser)))))))))))))))))
theorem alikeB_refl (T : TS) : alikeB T T = true := by
 simp [alikeB, grB_refl, eqRB, psB_refl, tabsB_iff]
end Go.Proofs.YteoejhjfbfacdaaDoor.X
namespace Go.Proofs.YteoejhjfbfacdaaDoor.X
open Go Go.RowKit Go.Proofs.YteoejhjfbfacdaaDoor
set_option maxHeartbeats 4000000 in
theorem eqcells0 (b1 b2 c1 c2 : Nat) (l m : List Cel) (w : World) (h1 : Rd w (some ⟨b1, 0, none⟩) (flat l)) (h2 : Rd w (some ⟨b2, 0, none⟩) (flat m)) (hl : l.length ≤ maxLen) : Calls Tryd.prog 33 [.slice (some ⟨b1, 0, none⟩) l.length c1, .slice (some ⟨b2, 0, none⟩) m.length c2].toArray w fun e w' => e = .returned (.bool (eqLB l m)) ∧ Ch (fun _ => False) w w' := by
 simp only [maxLen] at hl
 refine yA Tryd.func33 rfl <| ysr <| yp 1 [] .z <| ye <| ys <| ysr <| yp 5 [] .z <| ye <| yc (rI ((l.length : Nat) : Int) ((m.length : Nat) : Int)) (fun hC10 => ?_) fun hC10 => ?_
 ·have hln := hC10
  refine ysr <| yp 1 [] .z <| ye <| x_ret (rS (yR1 (.bool false) ?_))
  refine ⟨?_, Up.ch (Up.refl w.heap.size w)⟩
  rw [eqLB_f (fun e => hln (by rw [e]))]
 have hll := hC10
 refine yk <| ys <| ysr <| yp 3 [] .z <| ye <| x_block <| ykeep [0, 1, 12, 13] (f' := [(0, .slice (some ⟨b1, 0, none⟩) l.length c1), (1, .slice (some ⟨b2, 0, none⟩) m.length c2), (12, iX ((l.length : Nat) : Int)), (13, iX 0)]) <| x_loop (σ := Nat) (fun k => [(0, .slice (some ⟨b1, 0, none⟩) l.length c1), (1, .slice (some ⟨b2, 0, none⟩) m.length c2), (12, iX ((l.length : Nat) : Int)), (13, iX ((k : Nat) : Int))]) (fun k u => k ≤ l.length ∧ l.take k = m.take k ∧ Ch (fun _ => False) w u) (fun k => l.length - k) 0 rfl ?_ ?_
 ·exact ⟨Nat.zero_le _, rfl, Ch.refl _ _⟩
 intro k w11 hI12 K13 hL14
 obtain ⟨hk, hkt, hc15⟩ := hI12
 have hu16 := Up.step (Up.refl w.heap.size w) hc15 iZ
 have hr17 := Ch.rd hc15 h1 id
 have hr18 := Ch.rd hc15 h2 id
 refine ysr <| yp 1 [] .z <| ye <| ys <| yc (rL ((k : Nat) : Int) ((l.length : Nat) : Int)) (fun hC19 => ?_) fun hC19 => ?_
 ·refine yk <| ys <| x_block <| ysr <| yp 2 [] .z <| ye <| ys <| yD [] fun w20 hH21 hc22 => ?_
  have hu23 := Up.step hu16 hc22 iZ
  have hL24 := Ch.trans hc15 hc22 eZ
  have hr25 := Ch.rd hc22 hr17 id
  have hr26 := Ch.rd hc22 hr18 id
  refine yd (uL 0 9) [] (.i ((k : Nat) : Int) (l.length) (.m (c_rune (i := ((k : Nat) : Int)) hr25 (by omega) (by omega)) (.m (c_bold (i := ((k : Nat) : Int)) hr25 (by omega) (by omega)) (.m (c_under (i := ((k : Nat) : Int)) hr25 (by omega) (by omega)) (.m (c_turned (i := ((k : Nat) : Int)) hr25 (by omega) (by omega)) (.m (c_fore (i := ((k : Nat) : Int)) hr25 (by omega) (by omega)) (.m (c_back (i := ((k : Nat) : Int)) hr25 (by omega) (by omega)) (.e (.i ((k : Nat) : Int) (m.length) (.m (c_rune (i := ((k : Nat) : Int)) hr26 (by omega) (by omega)) (.m (c_bold (i := ((k : Nat) : Int)) hr26 (by omega) (by omega)) (.m (c_under (i := ((k : Nat) : Int)) hr26 (by omega) (by omega)) (.m (c_turned (i := ((k : Nat) : Int)) hr26 (by omega) (by omega)) (.m (c_fore (i := ((k : Nat) : Int)) hr26 (by omega) (by omega)) (.m (c_back (i := ((k : Nat) : Int)) hr26 (by omega) (by omega)) (.e .z)))))))))))))))) <| yDe (nS ?_)
  refine yc (rN (rY ((((gc l ((k : Nat) : Int)).rune : Int) == (gc m ((k : Nat) : Int)).rune) && ((((gc l ((k : Nat) : Int)).sty.bold == (gc m ((k : Nat) : Int)).sty.bold) && (((gc l ((k : Nat) : Int)).sty.under == (gc m ((k : Nat) : Int)).sty.under) && (((gc l ((k : Nat) : Int)).sty.turned == (gc m ((k : Nat) : Int)).sty.turned) && ((((gc l ((k : Nat) : Int)).sty.fore : Int) == (gc m ((k : Nat) : Int)).sty.fore) && ((((gc l ((k : Nat) : Int)).sty.back : Int) == (gc m ((k : Nat) : Int)).sty.back) && true))))) && true)))) (fun hC27 => ?_) fun hC27 => ?_
  ·rw [cel_and] at hC27
   have hce := hC27
   refine ysr <| yp 1 [] .z <| ye <| x_ret (rB (rS (then_ret (rB (rS (yR1 (.bool false) ?_))))))
   refine ⟨?_, Up.ch hu23⟩
   rw [eqLB_f (ne_at (k := k) (by omega) (by omega) (fun e => by rw [← gc_at (by omega), ← gc_at (by omega)] at e; rw [e] at hce; simp at hce))]
  rw [cel_and] at hC27
  have hce := eq_of_beq hC27
  refine x_skip (nB (nS ?_))
  refine x_region <| yp 2 [] (.q6 (((k : Nat) : Int) + 1) .z) <| yE (fun a ha => hL14 (k + 1) _ ⟨by omega, take_next hkt (by omega) (by omega) (by rw [← gc_at (by omega), ← gc_at (by omega)]; exact hce), hL24⟩ (by show l.length - (k + 1) < l.length - k; omega) a (ha.kp [0, 1, 12, 13]))
 have hkn : k = l.length := by omega
 refine x_exit (eS (then_exit (block_exit (nS ?_))))
 refine ysr <| yp 1 [] .z <| ye <| x_ret (yR1 (.bool true) ?_)
 refine ⟨?_, Up.ch hu16⟩
 have hml : m.length = l.length := by omega
 rw [eqLB_t (by rw [hkn, List.take_length, ← hml, List.take_length] at hkt; exact hkt)]
set_option maxHeartbeats 4000000 in
theorem same80 (b1 b2 c1 c2 : Nat) (l m : List Cel) (w : World) (h1 : Rd w (some ⟨b1, 0, none⟩) (flat l)) (h2 : Rd w (some ⟨b2, 0, none⟩) (flat m)) (hl : l.length ≤ maxLen) : Calls Tryd.prog 30 [.slice (some ⟨b1, 0, none⟩) l.length c1, .slice (some ⟨b2, 0, none⟩) m.length c2].toArray w fun e w' => e = .returned (.bool (eqLB l m)) ∧ Ch (fun _ => False) w w' := by
 simp only [maxLen] at hl
 refine yA Tryd.func30 rfl <| ysr <| yp 1 [] .z <| ye <| ys <| ysr <| yp 5 [] .z <| ye <| yc (rI ((l.length : Nat) : Int) ((m.length : Nat) : Int)) (fun hC10 => ?_) fun hC10 => ?_
 ·have hln := hC10
  refine ysr <| yp 1 [] .z <| ye <| x_ret (rS (yR1 (.bool false) ?_))
  refine ⟨?_, Up.ch (Up.refl w.heap.size w)⟩
  rw [eqLB_f (fun e => hln (by rw [e]))]
 have hll := hC10
 refine yk <| ys <| ysr <| yp 3 [] .z <| ye <| x_block <| ykeep [0, 1, 12, 13] (f' := [(0, .slice (some ⟨b1, 0, none⟩) l.length c1), (1, .slice (some ⟨b2, 0, none⟩) m.length c2), (12, iX ((l.length : Nat) : Int)), (13, iX 0)]) <| x_loop (σ := Nat) (fun k => [(0, .slice (some ⟨b1, 0, none⟩) l.length c1), (1, .slice (some ⟨b2, 0, none⟩) m.length c2), (12, iX ((l.length : Nat) : Int)), (13, iX ((k : Nat) : Int))]) (fun k u => k ≤ l.length ∧ l.take k = m.take k ∧ Ch (fun _ => False) w u) (fun k => l.length - k) 0 rfl ?_ ?_
 ·exact ⟨Nat.zero_le _, rfl, Ch.refl _ _⟩
 intro k w11 hI12 K13 hL14
 obtain ⟨hk, hkt, hc15⟩ := hI12
 have hu16 := Up.step (Up.refl w.heap.size w) hc15 iZ
 have hr17 := Ch.rd hc15 h1 id
 have hr18 := Ch.rd hc15 h2 id
 refine ysr <| yp 1 [] .z <| ye <| ys <| yc (rL ((k : Nat) : Int) ((l.length : Nat) : Int)) (fun hC19 => ?_) fun hC19 => ?_
 ·refine yk <| ys <| x_block <| ysr <| yp 2 [] .z <| ye <| ys <| yD [] fun w20 hH21 hc22 => ?_
  have hu23 := Up.step hu16 hc22 iZ
  have hL24 := Ch.trans hc15 hc22 eZ
  have hr25 := Ch.rd hc22 hr17 id
  have hr26 := Ch.rd hc22 hr18 id
  refine yd (uL 0 9) [] (.i ((k : Nat) : Int) (l.length) (.m (c_rune (i := ((k : Nat) : Int)) hr25 (by omega) (by omega)) (.m (c_bold (i := ((k : Nat) : Int)) hr25 (by omega) (by omega)) (.m (c_under (i := ((k : Nat) : Int)) hr25 (by omega) (by omega)) (.m (c_turned (i := ((k : Nat) : Int)) hr25 (by omega) (by omega)) (.m (c_fore (i := ((k : Nat) : Int)) hr25 (by omega) (by omega)) (.m (c_back (i := ((k : Nat) : Int)) hr25 (by omega) (by omega)) (.e (.i ((k : Nat) : Int) (m.length) (.m (c_rune (i := ((k : Nat) : Int)) hr26 (by omega) (by omega)) (.m (c_bold (i := ((k : Nat) : Int)) hr26 (by omega) (by omega)) (.m (c_under (i := ((k : Nat) : Int)) hr26 (by omega) (by omega)) (.m (c_turned (i := ((k : Nat) : Int)) hr26 (by omega) (by omega)) (.m (c_fore (i := ((k : Nat) : Int)) hr26 (by omega) (by omega)) (.m (c_back (i := ((k : Nat) : Int)) hr26 (by omega) (by omega)) (.e .z)))))))))))))))) <| yDe (nS ?_)
  refine yc (rN (rY ((((gc l ((k : Nat) : Int)).rune : Int) == (gc m ((k : Nat) : Int)).rune) && ((((gc l ((k : Nat) : Int)).sty.bold == (gc m ((k : Nat) : Int)).sty.bold) && (((gc l ((k : Nat) : Int)).sty.under == (gc m ((k : Nat) : Int)).sty.under) && (((gc l ((k : Nat) : Int)).sty.turned == (gc m ((k : Nat) : Int)).sty.turned) && ((((gc l ((k : Nat) : Int)).sty.fore : Int) == (gc m ((k : Nat) : Int)).sty.fore) && ((((gc l ((k : Nat) : Int)).sty.back : Int) == (gc m ((k : Nat) : Int)).sty.back) && true))))) && true)))) (fun hC27 => ?_) fun hC27 => ?_
  ·rw [cel_and] at hC27
   have hce := hC27
   refine ysr <| yp 1 [] .z <| ye <| x_ret (rB (rS (then_ret (rB (rS (yR1 (.bool false) ?_))))))
   refine ⟨?_, Up.ch hu23⟩
   rw [eqLB_f (ne_at (k := k) (by omega) (by omega) (fun e => by rw [← gc_at (by omega), ← gc_at (by omega)] at e; rw [e] at hce; simp at hce))]
  rw [cel_and] at hC27
  have hce := eq_of_beq hC27
  refine x_skip (nB (nS ?_))
  refine x_region <| yp 2 [] (.q6 (((k : Nat) : Int) + 1) .z) <| yE (fun a ha => hL14 (k + 1) _ ⟨by omega, take_next hkt (by omega) (by omega) (by rw [← gc_at (by omega), ← gc_at (by omega)]; exact hce), hL24⟩ (by show l.length - (k + 1) < l.length - k; omega) a (ha.kp [0, 1, 12, 13]))
 have hkn : k = l.length := by omega
 refine x_exit (eS (then_exit (block_exit (nS ?_))))
 refine ysr <| yp 1 [] .z <| ye <| x_ret (yR1 (.bool true) ?_)
 refine ⟨?_, Up.ch hu16⟩
 have hml : m.length = l.length := by omega
 rw [eqLB_t (by rw [hkn, List.take_length, ← hml, List.take_length] at hkt; exact hkt)]
theorem eqcells_any (b1 b2 c1 c2 : Nat) {n1 n2 : Nat} (l m : List Cel) (w : World) (h1 : Rd w (some ⟨b1, 0, none⟩) (flat l)) (h2 : Rd w (some ⟨b2, 0, none⟩) (flat m)) (hl : l.length ≤ maxLen) (e1 : l.length = n1) (e2 : m.length = n2) : Calls Tryd.prog 33 [.slice (some ⟨b1, 0, none⟩) n1 c1, .slice (some ⟨b2, 0, none⟩) n2 c2].toArray w fun e w' => e = .returned (.bool (eqLB l m)) ∧ Ch (fun _ => False) w w' := by
 subst e1 e2
 exact eqcells0 b1 b2 c1 c2 l m w h1 h2 hl
theorem same8_any (b1 b2 c1 c2 : Nat) {n1 n2 : Nat} (l m : List Cel) (w : World) (h1 : Rd w (some ⟨b1, 0, none⟩) (flat l)) (h2 : Rd w (some ⟨b2, 0, none⟩) (flat m)) (hl : l.length ≤ maxLen) (e1 : l.length = n1) (e2 : m.length = n2) : Calls Tryd.prog 30 [.slice (some ⟨b1, 0, none⟩) n1 c1, .slice (some ⟨b2, 0, none⟩) n2 c2].toArray w fun e w' => e = .returned (.bool (eqLB l m)) ∧ Ch (fun _ => False) w w' := by
 subst e1 e2
 exact same80 b1 b2 c1 c2 l m w h1 h2 hl
set_option maxHeartbeats 4000000 in
theorem lines_some (b1 o1 c1 b2 o2 c2 : Nat) (rows1 rows2 : List Row) (M1 M2 : List (List Cel)) (hM1 : rows1.map Row.l = M1) (hM2 : rows2.map Row.l = M2) (w : World) (h1 : Rd w (some ⟨b1, o1, none⟩) (rows1.map Row.val)) (h2 : Rd w (some ⟨b2, o2, none⟩) (rows2.map Row.val)) (hn : rows1.length ≤ 1000) (hl1 : ∀ x ∈ rows1, LineAt w x.b x.l x.cap ∧ x.l.length = x.n) (hl2 : ∀ x ∈ rows2, LineAt w x.b x.l x.cap ∧ x.l.length = x.n) : Calls Tryd.prog 17 [.slice (some ⟨b1, o1, none⟩) rows1.length c1, .slice (some ⟨b2, o2, none⟩) rows2.length c2].toArray w fun e w' => e = .returned (.bool (eqRB M1 M2)) ∧ Ch (fun _ => False) w w' := by
 refine yA Tryd.func17 rfl <| ysr <| yp 1 [] .z <| ye <| ys <| ysr <| yp 5 [] .z <| ye <| yc (rI ((rows1.length : Nat) : Int) ((rows2.length : Nat) : Int)) (fun hC10 => ?_) fun hC10 => ?_
 ·have hln := hC10
  refine ysr <| yp 1 [] .z <| ye <| x_ret (rS (yR1 (.bool false) ?_))
  refine ⟨?_, Up.ch (Up.refl w.heap.size w)⟩
  rw [eqRB_f (fun e => hln (by rw [← hM1, ← hM2] at e; have := congrArg List.length e; rw [List.length_map, List.length_map] at this; omega))]
 have hll := hC10
 refine yk <| ys <| ysr <| yp 3 [] .z <| ye <| x_block <| ykeep [0, 1, 12, 13] (f' := [(0, .slice (some ⟨b1, o1, none⟩) rows1.length c1), (1, .slice (some ⟨b2, o2, none⟩) rows2.length c2), (12, iX ((rows1.length : Nat) : Int)), (13, iX 0)]) <| x_loop (σ := Nat) (fun k => [(0, .slice (some ⟨b1, o1, none⟩) rows1.length c1), (1, .slice (some ⟨b2, o2, none⟩) rows2.length c2), (12, iX ((rows1.length : Nat) : Int)), (13, iX ((k : Nat) : Int))]) (fun k u => k ≤ rows1.length ∧ M1.take k = M2.take k ∧ Ch (fun _ => False) w u) (fun k => rows1.length - k) 0 rfl ?_ ?_
 ·exact ⟨Nat.zero_le _, rfl, Ch.refl _ _⟩
 intro k w11 hI12 K13 hL14
 obtain ⟨hk, hkt, hc15⟩ := hI12
 have hu16 := Up.step (Up.refl w.heap.size w) hc15 iZ
 have hr17 := Ch.rd hc15 h1 id
 have hr18 := Ch.rd hc15 h2 id
 have hln19 : ∀ x ∈ rows1, LineAt w11 x.b x.l x.cap ∧ x.l.length = x.n := fun x hx => ⟨(hl1 x hx).1.ch hc15 id, (hl1 x hx).2⟩
 have hln20 : ∀ x ∈ rows2, LineAt w11 x.b x.l x.cap ∧ x.l.length = x.n := fun x hx => ⟨(hl2 x hx).1.ch hc15 id, (hl2 x hx).2⟩
 refine ysr <| yp 1 [] .z <| ye <| ys <| yc (rL ((k : Nat) : Int) ((rows1.length : Nat) : Int)) (fun hC21 => ?_) fun hC21 => ?_
 ·obtain ⟨q1, hq1⟩ := rows_some (rows := rows1) (k := k) (by omega)
  obtain ⟨q2, hq2⟩ := rows_some (rows := rows2) (k := k) (by omega)
  obtain ⟨hk1, he1⟩ := rows_line hM1 hq1
  obtain ⟨hk2, he2⟩ := rows_line hM2 hq2
  refine yk <| ys <| x_block <| ysr <| yp 2 [] .z <| ye <| ys <| yD [8] fun w22 hH23 hc24 => ?_
  have hu25 := Up.step hu16 hc24 iZ
  have hL26 := Ch.trans hc15 hc24 eZ
  have hr27 := Ch.rd hc24 hr17 id
  have hr28 := Ch.rd hc24 hr18 id
  have hln29 : ∀ x ∈ rows1, LineAt w22 x.b x.l x.cap ∧ x.l.length = x.n := fun x hx => ⟨(hln19 x hx).1.ch hc24 id, (hln19 x hx).2⟩
  have hln30 : ∀ x ∈ rows2, LineAt w22 x.b x.l x.cap ∧ x.l.length = x.n := fun x hx => ⟨(hln20 x hx).1.ch hc24 id, (hln20 x hx).2⟩
  refine yd (uL 0 8) [] (.i ((k : Nat) : Int) (rows1.length) (.l (rows_cell hr27 hq1) (.i ((k : Nat) : Int) (rows2.length) (.l (rows_cell hr28 hq2) .z)))) ?_
  obtain ⟨hq1l, hq1n⟩ := hln29 q1 (List.mem_of_getElem? hq1)
  obtain ⟨hq2l, hq2n⟩ := hln30 q2 (List.mem_of_getElem? hq2)
  refine yK 8 (yQ ((same8_any q1.b q2.b q1.cap q2.cap q1.l q2.l _ hq1l.rd hq2l.rd (Nat.le_trans hq1l.2.1 hq1l.2.2.1) hq1n hq2n)) fun w32 hc31 => ?_)
  have hu33 := Up.step hu25 hc31 iZ
  have hL34 := Ch.trans hL26 hc31 eZ
  have hln37 : ∀ x ∈ rows1, LineAt w32 x.b x.l x.cap ∧ x.l.length = x.n := fun x hx => ⟨(hln29 x hx).1.ch hc31 id, (hln29 x hx).2⟩
  have hln38 : ∀ x ∈ rows2, LineAt w32 x.b x.l x.cap ∧ x.l.length = x.n := fun x hx => ⟨(hln30 x hx).1.ch hc31 id, (hln30 x hx).2⟩
  refine x_killed <| yd [9] [] .z <| yDe (nS ?_)
  refine yc (rN (rY (eqLB q1.l q2.l))) (fun hC39 => ?_) fun hC39 => ?_
  ·have hce : ¬ q1.l = q2.l := of_decide_eq_false hC39
   refine ysr <| yp 1 [] .z <| ye <| x_ret (rB (rS (then_ret (rB (rS (yR1 (.bool false) ?_))))))
   refine ⟨?_, Up.ch hu33⟩
   rw [eqRB_f (ne_at hk1 hk2 (by rw [he1, he2]; exact hce))]
  have hce : q1.l = q2.l := of_decide_eq_true hC39
  refine x_skip (nB (nS ?_))
  refine x_region <| yp 2 [] (.q6 (((k : Nat) : Int) + 1) .z) <| yE (fun a ha => hL14 (k + 1) _ ⟨by omega, take_next hkt hk1 hk2 (by rw [he1, he2]; exact hce), hL34⟩ (by show rows1.length - (k + 1) < rows1.length - k; omega) a (ha.kp [0, 1, 12, 13]))
 have hkn : k = rows1.length := by omega
 refine x_exit (eS (then_exit (block_exit (nS ?_))))
 refine ysr <| yp 1 [] .z <| ye <| x_ret (yR1 (.bool true) ?_)
 refine ⟨?_, Up.ch hu16⟩
 have hm1 : M1.length = k := by rw [← hM1, List.length_map]; omega
 have hm2 : M2.length = k := by rw [← hM2, List.length_map]; omega
 rw [eqRB_t (by rw [← hm1, List.take_length, hm1, ← hm2, List.take_length] at hkt; exact hkt)]
set_option maxHeartbeats 4000000 in
theorem lines_zero (a1 a2 : Option Addr) (c1 c2 : Nat) (rows1 rows2 : List Row) (M1 M2 : List (List Cel)) (hM1 : rows1.map Row.l = M1) (hM2 : rows2.map Row.l = M2) (w : World) (hn : rows1.length ≤ 1000) (hz : rows1.length = 0 ∨ rows2.length = 0) : Calls Tryd.prog 17 [.slice a1 rows1.length c1, .slice a2 rows2.length c2].toArray w fun e w' => e = .returned (.bool (eqRB M1 M2)) ∧ Ch (fun _ => False) w w' := by
 refine yA Tryd.func17 rfl <| ysr <| yp 1 [] .z <| ye <| ys <| ysr <| yp 5 [] .z <| ye <| yc (rI ((rows1.length : Nat) : Int) ((rows2.length : Nat) : Int)) (fun hC10 => ?_) fun hC10 => ?_
 ·have hln := hC10
  refine ysr <| yp 1 [] .z <| ye <| x_ret (rS (yR1 (.bool false) ?_))
  refine ⟨?_, Up.ch (Up.refl w.heap.size w)⟩
  rw [eqRB_f (fun e => hln (by rw [← hM1, ← hM2] at e; have := congrArg List.length e; rw [List.length_map, List.length_map] at this; omega))]
 have hll := hC10
 refine yk <| ys <| ysr <| yp 3 [] .z <| ye <| x_block <| ykeep [0, 1, 12, 13] (f' := [(0, .slice a1 rows1.length c1), (1, .slice a2 rows2.length c2), (12, iX ((rows1.length : Nat) : Int)), (13, iX 0)]) <| x_loop (σ := Nat) (fun k => [(0, .slice a1 rows1.length c1), (1, .slice a2 rows2.length c2), (12, iX ((rows1.length : Nat) : Int)), (13, iX ((k : Nat) : Int))]) (fun k u => k ≤ rows1.length ∧ M1.take k = M2.take k ∧ Ch (fun _ => False) w u) (fun k => rows1.length - k) 0 rfl ?_ ?_
 ·exact ⟨Nat.zero_le _, rfl, Ch.refl _ _⟩
 intro k w11 hI12 K13 hL14
 obtain ⟨hk, hkt, hc15⟩ := hI12
 have hu16 := Up.step (Up.refl w.heap.size w) hc15 iZ
 refine ysr <| yp 1 [] .z <| ye <| ys <| yc (rL ((k : Nat) : Int) ((rows1.length : Nat) : Int)) (fun hC17 => ?_) fun hC17 => ?_
 ·exfalso; omega
 have hkn : k = rows1.length := by omega
 refine x_exit (eS (then_exit (block_exit (nS ?_))))
 refine ysr <| yp 1 [] .z <| ye <| x_ret (yR1 (.bool true) ?_)
 refine ⟨?_, Up.ch hu16⟩
 have hm1 : M1.length = k := by rw [← hM1, List.length_map]; omega
 have hm2 : M2.length = k := by rw [← hM2, List.length_map]; omega
 rw [eqRB_t (by rw [← hm1, List.take_length, hm1, ← hm2, List.take_length] at hkt; exact hkt)]
theorem lines_any {w : World} {a1 a2 : Option Addr} {n1 n2 c1 c2 : Nat} {rows1 rows2 : List Row} {M1 M2 : List (List Cel)} {K1 K2 : Nat → Prop} (h1 : LinesAt w a1 n1 rows1 K1) (h2 : LinesAt w a2 n2 rows2 K2) (z1 : a1 = none ∨ ∃ b off, a1 = some ⟨b, off, none⟩) (z2 : a2 = none ∨ ∃ b off, a2 = some ⟨b, off, none⟩) (hM1 : rows1.map Row.l = M1) (hM2 : rows2.map Row.l = M2) (hn : n1 ≤ 1000) :
    Calls Tryd.prog 17 [.slice a1 n1 c1, .slice a2 n2 c2].toArray w fun e w' => e = .returned (.bool (eqRB M1 M2)) ∧ Ch (fun _ => False) w w' := by
  obtain rfl := h1.len
  obtain rfl := h2.len
  rcases z1 with rfl | ⟨b1, o1, rfl⟩
  · exact lines_zero none a2 c1 c2 rows1 rows2 M1 M2 hM1 hM2 w hn (.inl (by have := h1.rd.1 rfl; simpa using congrArg List.length this))
  · rcases z2 with rfl | ⟨b2, o2, rfl⟩
    · exact lines_zero _ none c1 c2 rows1 rows2 M1 M2 hM1 hM2 w hn (.inr (by have := h2.rd.1 rfl; simpa using congrArg List.length this))
    · exact lines_some b1 o1 c1 b2 o2 c2 rows1 rows2 M1 M2 hM1 hM2 w h1.rd h2.rd hn h1.line h2.line
set_option maxHeartbeats 4000000 in
theorem gsame0 {w : World} (g1 r1 rc1 : Nat) (rows1 : List Row) (G1 : Gr) (M1 : List (List Cel)) (hM1 : rows1.map Row.l = M1) (hG1 : G1.lines = M1) (hh1 : Blk w g1 [.int .i64 G1.w, .int .i64 G1.h, .slice (some ⟨r1, 0, none⟩) rows1.length rc1] tGrid) (hb1 : Rd w (some ⟨r1, 0, none⟩) (rows1.map Row.val)) (hl1 : ∀ x ∈ rows1, LineAt w x.b x.l x.cap ∧ x.l.length = x.n) (hn1 : rows1.length = G1.h.toNat) (hk10 : 1 ≤ G1.h ∧ G1.h ≤ 60) (g2 r2 rc2 : Nat) (rows2 : List Row) (G2 : Gr) (M2 : List (List Cel)) (hM2 : rows2.map Row.l = M2) (hG2 : G2.lines = M2) (hh2 : Blk w g2 [.int .i64 G2.w, .int .i64 G2.h, .slice (some ⟨r2, 0, none⟩) rows2.length rc2] tGrid) (hb2 : Rd w (some ⟨r2, 0, none⟩) (rows2.map Row.val)) (hl2 : ∀ x ∈ rows2, LineAt w x.b x.l x.cap ∧ x.l.length = x.n) (hn2 : rows2.length = G2.h.toNat) (hk20 : 1 ≤ G2.h ∧ G2.h ≤ 60) : Calls Tryd.prog 19 [.pointer (some ⟨g1, 0, none⟩), .pointer (some ⟨g2, 0, none⟩)].toArray w fun e w' => e = .returned (.bool (grB G1 G2)) ∧ Ch (fun _ => False) w w' := by
 refine yA Tryd.func19 rfl <| ysr <| yp 1 [] .z <| ye <| ys <| ys <| yD [] fun w10 hH11 hc12 => ?_
 have hu13 := Up.step (Up.refl w.heap.size w) hc12 iZ
 have hB14 := hh1.ch hc12 id
 have hB15 := hh2.ch hc12 id
 have hr16 := Ch.rd hc12 hb1 id
 have hr17 := Ch.rd hc12 hb2 id
 have hln18 : ∀ x ∈ rows1, LineAt w10 x.b x.l x.cap ∧ x.l.length = x.n := fun x hx => ⟨(hl1 x hx).1.ch hc12 id, (hl1 x hx).2⟩
 have hln19 : ∀ x ∈ rows2, LineAt w10 x.b x.l x.cap ∧ x.l.length = x.n := fun x hx => ⟨(hl2 x hx).1.ch hc12 id, (hl2 x hx).2⟩
 refine yd (uL 0 10) [] (.l (hB14.c 0) (.l (hB15.c 0) .z)) <| yv [15] (rI G1.w G2.w) (fun hC20 => ?_) fun hC20 => ?_
 ·have hlw := hC20
  refine yd (uL 10 10) [] .z <| yDe (nS ?_)
  refine yct <| ysr <| yp 1 [] .z <| ye <| x_ret (rS (yR1 (.bool false) ?_))
  refine ⟨?_, Up.ch hu13⟩
  rw [grB_w hlw]
 have hlw : G1.w = G2.w := by have := hC20; omega
 refine yd (uL 10 10) [] (.l (hB14.c 1) (.l (hB15.c 1) .z)) <| yDe (nS ?_)
 refine yc (rI G1.h G2.h) (fun hC21 => ?_) fun hC21 => ?_
 ·have hlh := hC21
  refine ysr <| yp 1 [] .z <| ye <| x_ret (rS (yR1 (.bool false) ?_))
  refine ⟨?_, Up.ch hu13⟩
  rw [grB_h hlh]
 have hlh : G1.h = G2.h := by have := hC21; omega
 refine yk <| ys <| ysr <| yp 5 [] (.l (hB14.c 1) .z) <| ye <| x_block <| ykeep [0, 1, 29, 30] (f' := [(0, pX g1), (1, pX g2), (29, iX G1.h), (30, iX 0)]) <| x_loop (σ := Nat) (fun k => [(0, pX g1), (1, pX g2), (29, iX G1.h), (30, iX ((k : Nat) : Int))]) (fun k u => k ≤ rows1.length ∧ M1.take k = M2.take k ∧ Ch (fun _ => False) w10 u) (fun k => rows1.length - k) 0 rfl ?_ ?_
 ·exact ⟨Nat.zero_le _, rfl, Ch.refl _ _⟩
 intro k w22 hI23 K24 hL25
 obtain ⟨hk, hkt, hc26⟩ := hI23
 have hu27 := Up.step hu13 hc26 iZ
 have hB28 := hB14.ch hc26 id
 have hB29 := hB15.ch hc26 id
 have hr30 := Ch.rd hc26 hr16 id
 have hr31 := Ch.rd hc26 hr17 id
 have hln32 : ∀ x ∈ rows1, LineAt w22 x.b x.l x.cap ∧ x.l.length = x.n := fun x hx => ⟨(hln18 x hx).1.ch hc26 id, (hln18 x hx).2⟩
 have hln33 : ∀ x ∈ rows2, LineAt w22 x.b x.l x.cap ∧ x.l.length = x.n := fun x hx => ⟨(hln19 x hx).1.ch hc26 id, (hln19 x hx).2⟩
 refine ysr <| yp 1 [] .z <| ye <| ys <| yc (rL ((k : Nat) : Int) G1.h) (fun hC34 => ?_) fun hC34 => ?_
 ·obtain ⟨q1, hq1⟩ := rows_some (rows := rows1) (k := k) (by omega)
  obtain ⟨q2, hq2⟩ := rows_some (rows := rows2) (k := k) (by omega)
  obtain ⟨hk1, he1⟩ := rows_line hM1 hq1
  obtain ⟨hk2, he2⟩ := rows_line hM2 hq2
  refine yk <| ys <| x_block <| ysr <| yp 2 [] .z <| ye <| ys <| yD [14] fun w35 hH36 hc37 => ?_
  have hu38 := Up.step hu27 hc37 iZ
  have hL39 := Ch.trans hc26 hc37 eZ
  have hB40 := hB28.ch hc37 id
  have hB41 := hB29.ch hc37 id
  have hr42 := Ch.rd hc37 hr30 id
  have hr43 := Ch.rd hc37 hr31 id
  have hln44 : ∀ x ∈ rows1, LineAt w35 x.b x.l x.cap ∧ x.l.length = x.n := fun x hx => ⟨(hln32 x hx).1.ch hc37 id, (hln32 x hx).2⟩
  have hln45 : ∀ x ∈ rows2, LineAt w35 x.b x.l x.cap ∧ x.l.length = x.n := fun x hx => ⟨(hln33 x hx).1.ch hc37 id, (hln33 x hx).2⟩
  refine yd (uL 0 14) [] (.l (hB40.c 2) (.i ((k : Nat) : Int) (rows1.length) (.l (rows_cell hr42 hq1) (.l (hB41.c 2) (.i ((k : Nat) : Int) (rows2.length) (.l (rows_cell hr43 hq2) .z)))))) ?_
  obtain ⟨hq1l, hq1n⟩ := hln44 q1 (List.mem_of_getElem? hq1)
  obtain ⟨hq2l, hq2n⟩ := hln45 q2 (List.mem_of_getElem? hq2)
  refine yK 14 (yQ ((eqcells_any q1.b q2.b q1.cap q2.cap q1.l q2.l _ hq1l.rd hq2l.rd (Nat.le_trans hq1l.2.1 hq1l.2.2.1) hq1n hq2n)) fun w47 hc46 => ?_)
  have hu48 := Up.step hu38 hc46 iZ
  have hL49 := Ch.trans hL39 hc46 eZ
  have hln54 : ∀ x ∈ rows1, LineAt w47 x.b x.l x.cap ∧ x.l.length = x.n := fun x hx => ⟨(hln44 x hx).1.ch hc46 id, (hln44 x hx).2⟩
  have hln55 : ∀ x ∈ rows2, LineAt w47 x.b x.l x.cap ∧ x.l.length = x.n := fun x hx => ⟨(hln45 x hx).1.ch hc46 id, (hln45 x hx).2⟩
  refine x_killed <| yd [15] [] .z <| yDe (nS ?_)
  refine yc (rN (rY (eqLB q1.l q2.l))) (fun hC56 => ?_) fun hC56 => ?_
  ·have hce : ¬ q1.l = q2.l := of_decide_eq_false hC56
   refine ysr <| yp 1 [] .z <| ye <| x_ret (rB (rS (then_ret (rB (rS (yR1 (.bool false) ?_))))))
   refine ⟨?_, Up.ch hu48⟩
   rw [grB_l (by rw [hG1, hG2]; exact ne_at hk1 hk2 (by rw [he1, he2]; exact hce))]
  have hce : q1.l = q2.l := of_decide_eq_true hC56
  refine x_skip (nB (nS ?_))
  refine x_region <| yp 2 [] (.q6 (((k : Nat) : Int) + 1) .z) <| yE (fun a ha => hL25 (k + 1) _ ⟨by omega, take_next hkt hk1 hk2 (by rw [he1, he2]; exact hce), hL49⟩ (by show rows1.length - (k + 1) < rows1.length - k; omega) a (ha.kp [0, 1, 29, 30]))
 have hkn : k = rows1.length := by omega
 refine x_exit (eS (then_exit (block_exit (nS ?_))))
 refine ysr <| yp 1 [] .z <| ye <| x_ret (yR1 (.bool true) ?_)
 refine ⟨?_, Up.ch hu27⟩
 have hm1 : M1.length = k := by rw [← hM1, List.length_map]; omega
 have hm2 : M2.length = k := by rw [← hM2, List.length_map]; omega
 rw [grB_t hlw hlh (by rw [hG1, hG2]; rw [← hm1, List.take_length, hm1, ← hm2, List.take_length] at hkt; exact hkt)]
theorem gsame_any {w : World} {g1 g2 : Nat} {G1 G2 : Gr} {F1 F2 : Nat → Prop} (h1 : GridAt w g1 G1 F1) (h2 : GridAt w g2 G2 F2) : Calls Tryd.prog 19 [.pointer (some ⟨g1, 0, none⟩), .pointer (some ⟨g2, 0, none⟩)].toArray w fun e w' => e = .returned (.bool (grB G1 G2)) ∧ Ch (fun _ => False) w w' := by
 obtain ⟨r1, rc1, rows1, h1⟩ := h1
 obtain ⟨r2, rc2, rows2, h2⟩ := h2
 exact gsame0 g1 r1 rc1 rows1 G1 G1.lines h1.lines rfl h1.head h1.body.rd h1.line h1.len h1.ok.2.1 g2 r2 rc2 rows2 G2 G2.lines h2.lines rfl h2.head h2.body.rd h2.line h2.len h2.ok.2.1
end Go.Proofs.YteoejhjfbfacdaaDoor.X
namespace Go.Proofs.YteoejhjfbfacdaaDoor.X
open Go Go.RowKit Go.Proofs.YteoejhjfbfacdaaDoor
theorem cellsC_of {w : World} {b : Nat} : ∀ {vs : List Value} {o : Nat}, (∀ j v, vs[j]? = some v → w.cell? ⟨b, o + j, none⟩ = some v) → AllC (cellsC b o vs) w
  | [], _, _ => trivial
  | u :: vs, o, h => ⟨h 0 u rfl, cellsC_of fun j v e => by rw [show o + 1 + j = o + (j + 1) by omega]; exact h (j + 1) v e⟩
theorem tabs_of {w : World} {t g o : Nat} {T : TS} {bk ps : Value} (h : Blk w t (T.vals g o bk ps) tTerm) : AllC (cellsC t 28 (tabv T.tabs)) w := cellsC_of fun j v e => by
  have hj : j < 60 := by
    have := (List.getElem?_eq_some_iff.1 e).1
    simpa [tabv] using this
  have := tab_cell h ((j : Nat) : Int) (by omega) (by omega)
  rw [Int.toNat_natCast, Nat.mul_one] at this
  rw [tabv_at _ _ hj] at e
  exact this.trans e
set_option maxHeartbeats 4000000 in
theorem parsers_some (b1 b2 pn pc qn qc : Nat) (p q : PS) (w : World) (h1 : Rd w (some ⟨b1, 0, none⟩) (p.params.map (Value.int .i64))) (h2 : Rd w (some ⟨b2, 0, none⟩) (q.params.map (Value.int .i64))) (hp2 : p.params.length = pn) (hq2 : q.params.length = qn) (hn : pn ≤ 1000) (hn2 : qn ≤ 1000) : Calls Tryd.prog 29 [.agg #[.int .i64 p.state, .int .u8 p.utf.b0, .int .u8 p.utf.b1, .int .u8 p.utf.b2, .int .i64 p.utf.n, .string p.marks, .slice (some ⟨b1, 0, none⟩) pn pc, .string p.text, .int .i64 p.within], .agg #[.int .i64 q.state, .int .u8 q.utf.b0, .int .u8 q.utf.b1, .int .u8 q.utf.b2, .int .i64 q.utf.n, .string q.marks, .slice (some ⟨b2, 0, none⟩) qn qc, .string q.text, .int .i64 q.within]].toArray w fun e w' => e = .returned (.bool (psB p q)) ∧ Ch (fun _ => False) w w' := by
 refine yA Tryd.func29 rfl <| ysr <| yo (yN [iX p.state, uX p.utf.b0, uX p.utf.b1, uX p.utf.b2, iX p.utf.n, .string p.marks, .slice (some ⟨b1, 0, none⟩) pn pc, .string p.text, iX p.within] 39 fun w10 b11 hb12 hz13 hB14 hc15 => ?_)
 have hlo16 : w.heap.size ≤ b11 := by rw [hb12]; exact Ch.size (Up.refl w.heap.size w)
 have hu17 := Up.step (Up.refl w.heap.size w) hc15 iZ
 have hr18 := Ch.rd hc15 h1 id
 have hr19 := Ch.rd hc15 h2 id
 refine yo (yN [iX q.state, uX q.utf.b0, uX q.utf.b1, uX q.utf.b2, iX q.utf.n, .string q.marks, .slice (some ⟨b2, 0, none⟩) qn qc, .string q.text, iX q.within] 39 fun w20 b21 hb22 hz23 hB24 hc25 => ?_)
 have hlo26 : w.heap.size ≤ b21 := by rw [hb22]; exact Ch.size hu17
 have hu27 := Up.step hu17 hc25 iZ
 have hr28 := Ch.rd hc25 hr18 id
 have hr29 := Ch.rd hc25 hr19 id
 have hB30 := hB14.ch hc25 id
 refine yp 3 [] .z <| ye <| ys <| ysr <| yp 6 [] (.l (hB30.c 0) (.l (hB24.c 0) .z)) <| yw [11] (rI p.state q.state) (fun hC31 => ?_) fun hC31 => ?_
 ·have hpp32 : decide (p.state = q.state) = false := decide_eq_false (by have := hC31; omega)
  refine yp 53 [] .z <| ye <| yct <| ysr <| yp 1 [] .z <| ye <| x_ret (rS (yR1 (.bool false) ?_))
  refine ⟨congrArg Ending.returned (congrArg Value.bool ?_), Up.ch hu27⟩
  simp only [psB, hpp32, Bool.false_and, Bool.true_and, Bool.and_false]
 have hpp33 : decide (p.state = q.state) = true := decide_eq_true (by have := hC31; omega)
 refine yp 13 [] (.l (hB30.c 8) (.l (hB24.c 8) .z)) <| yw [18] (rI p.within q.within) (fun hC34 => ?_) fun hC34 => ?_
 ·have hpp35 : decide (p.within = q.within) = false := decide_eq_false (by have := hC34; omega)
  refine yp 53 [] .z <| ye <| yct <| ysr <| yp 1 [] .z <| ye <| x_ret (rS (yR1 (.bool false) ?_))
  refine ⟨congrArg Ending.returned (congrArg Value.bool ?_), Up.ch hu27⟩
  simp only [psB, hpp33, hpp35, Bool.false_and, Bool.true_and, Bool.and_false]
 have hpp36 : decide (p.within = q.within) = true := decide_eq_true (by have := hC34; omega)
 refine yp 20 [] (.l (hB30.c 5) (.l (hB24.c 5) .z)) <| yw [25] (rN (rY ((p.marks).toList == (q.marks).toList))) (fun hC37 => ?_) fun hC37 => ?_
 ·have hpp38 := hC37
  refine yp 53 [] .z <| ye <| yct <| ysr <| yp 1 [] .z <| ye <| x_ret (rS (yR1 (.bool false) ?_))
  refine ⟨congrArg Ending.returned (congrArg Value.bool ?_), Up.ch hu27⟩
  simp only [psB, hpp33, hpp36, hpp38, Bool.false_and, Bool.true_and, Bool.and_false]
 have hpp39 := hC37
 refine yp 27 [] (.l (hB30.c 7) (.l (hB24.c 7) .z)) <| yw [32] (rN (rY ((p.text).toList == (q.text).toList))) (fun hC40 => ?_) fun hC40 => ?_
 ·have hpp41 := hC40
  refine yp 53 [] .z <| ye <| yct <| ysr <| yp 1 [] .z <| ye <| x_ret (rS (yR1 (.bool false) ?_))
  refine ⟨congrArg Ending.returned (congrArg Value.bool ?_), Up.ch hu27⟩
  simp only [psB, hpp33, hpp36, hpp39, hpp41, Bool.false_and, Bool.true_and, Bool.and_false]
 have hpp42 := hC40
 refine yp 36 [] (.l (hB30.c 4) (.l (hB24.c 4) .z)) <| yw [41] (rI p.utf.n q.utf.n) (fun hC43 => ?_) fun hC43 => ?_
 ·have hpp44 : decide (p.utf.n = q.utf.n) = false := decide_eq_false (by have := hC43; omega)
  refine yp 53 [] .z <| ye <| yct <| ysr <| yp 1 [] .z <| ye <| x_ret (rS (yR1 (.bool false) ?_))
  refine ⟨congrArg Ending.returned (congrArg Value.bool ?_), Up.ch hu27⟩
  simp only [psB, hpp33, hpp36, hpp39, hpp42, hpp44, Bool.false_and, Bool.true_and, Bool.and_false]
 have hpp45 : decide (p.utf.n = q.utf.n) = true := decide_eq_true (by have := hC43; omega)
 refine yp 45 [] (.a (hB30.cs 1 3) (.a (hB24.cs 1 3) .z)) <| yw [50] (rN (rY (((p.utf.b0 : Int) == q.utf.b0) && (((p.utf.b1 : Int) == q.utf.b1) && (((p.utf.b2 : Int) == q.utf.b2) && true))))) (fun hC46 => ?_) fun hC46 => ?_
 ·have hpp47 := hC46
  refine yp 53 [] .z <| ye <| yct <| ysr <| yp 1 [] .z <| ye <| x_ret (rS (yR1 (.bool false) ?_))
  refine ⟨congrArg Ending.returned (congrArg Value.bool ?_), Up.ch hu27⟩
  simp only [psB, hpp33, hpp36, hpp39, hpp42, hpp45, hpp47, Bool.false_and, Bool.true_and, Bool.and_false]
 have hpp48 := hC46
 refine yp 53 [] (.l (hB30.c 6) (.l (hB24.c 6) .z)) <| ye <| yc (rI ((pn : Nat) : Int) ((qn : Nat) : Int)) (fun hC49 => ?_) fun hC49 => ?_
 ·have hln := hC49
  refine ysr <| yp 1 [] .z <| ye <| x_ret (rS (yR1 (.bool false) ?_))
  have hpz : intsB p.params q.params = false := intsB_f (fun e => hln (by rw [← hp2, ← hq2, e]))
  refine ⟨congrArg Ending.returned (congrArg Value.bool ?_), Up.ch hu27⟩
  simp only [psB, hpp33, hpp36, hpp39, hpp42, hpp45, hpp48, hpz, Bool.false_and, Bool.true_and, Bool.and_false]
 have hll := hC49
 refine yk <| ys <| ysr <| yp 4 [] (.l (hB30.c 6) .z) <| ye <| x_block <| ykeep [2, 3, 61, 62] (f' := [(2, pX b11), (3, pX b21), (61, iX ((pn : Nat) : Int)), (62, iX 0)]) <| x_loop (σ := Nat) (fun k => [(2, pX b11), (3, pX b21), (61, iX ((pn : Nat) : Int)), (62, iX ((k : Nat) : Int))]) (fun k u => k ≤ pn ∧ p.params.take k = q.params.take k ∧ Ch (fun _ => False) w20 u) (fun k => pn - k) 0 rfl ?_ ?_
 ·exact ⟨Nat.zero_le _, rfl, Ch.refl _ _⟩
 intro k w50 hI51 K52 hL53
 obtain ⟨hk, hkt, hc54⟩ := hI51
 have hu55 := Up.step hu27 hc54 iZ
 have hr56 := Ch.rd hc54 hr28 id
 have hr57 := Ch.rd hc54 hr29 id
 have hB58 := hB30.ch hc54 id
 have hB59 := hB24.ch hc54 id
 refine ysr <| yp 1 [] .z <| ye <| ys <| yc (rL ((k : Nat) : Int) ((pn : Nat) : Int)) (fun hC60 => ?_) fun hC60 => ?_
 ·refine yk <| ys <| x_block <| ysr <| yp 2 [] .z <| ye <| ys <| yD [] fun w61 hH62 hc63 => ?_
  have hu64 := Up.step hu55 hc63 iZ
  have hL65 := Ch.trans hc54 hc63 eZ
  have hr66 := Ch.rd hc63 hr56 id
  have hr67 := Ch.rd hc63 hr57 id
  have hB68 := hB58.ch hc63 id
  have hB69 := hB59.ch hc63 id
  refine yd (uL 0 11) [] (.l (hB68.c 6) (.i ((k : Nat) : Int) (pn) (.l (o := (0 + (((k : Nat) : Int)).toNat * 1)) (ints_cell hr66 k (by omega)) (.l (hB69.c 6) (.i ((k : Nat) : Int) (qn) (.l (o := (0 + (((k : Nat) : Int)).toNat * 1)) (ints_cell hr67 k (by omega)) .z)))))) <| yDe (nS ?_)
  refine yc (rI (p.params.getD k 0) (q.params.getD k 0)) (fun hC70 => ?_) fun hC70 => ?_
  ·have hce := hC70
   refine ysr <| yp 1 [] .z <| ye <| x_ret (rB (rS (then_ret (rB (rS (yR1 (.bool false) ?_))))))
   have hpz : intsB p.params q.params = false := intsB_f (ne_at (k := k) (by omega) (by omega) (fun e => hce (by rw [getD_at (by omega), getD_at (by omega)]; exact e)))
   refine ⟨congrArg Ending.returned (congrArg Value.bool ?_), Up.ch hu64⟩
   simp only [psB, hpp33, hpp36, hpp39, hpp42, hpp45, hpp48, hpz, Bool.false_and, Bool.true_and, Bool.and_false]
  have hce := hC70
  refine x_skip (nB (nS ?_))
  refine x_region <| yp 2 [] (.q6 (((k : Nat) : Int) + 1) .z) <| yE (fun a ha => hL53 (k + 1) _ ⟨by omega, take_next hkt (by omega) (by omega) (by rw [getD_at (by omega), getD_at (by omega)] at hce; omega), hL65⟩ (by show pn - (k + 1) < pn - k; omega) a (ha.kp [2, 3, 61, 62]))
 have hkn : k = pn := by omega
 refine x_exit (eS (then_exit (block_exit (nS ?_))))
 refine ysr <| yp 1 [] .z <| ye <| x_ret (yR1 (.bool true) ?_)
 have hml : q.params.length = p.params.length := by omega
 have hpz : intsB p.params q.params = true := intsB_t (by rw [hkn, ← hp2, List.take_length, ← hml, List.take_length] at hkt; exact hkt)
 refine ⟨congrArg Ending.returned (congrArg Value.bool ?_), Up.ch hu55⟩
 simp only [psB, hpp33, hpp36, hpp39, hpp42, hpp45, hpp48, hpz, Bool.false_and, Bool.true_and, Bool.and_false]
set_option maxHeartbeats 4000000 in
theorem parsers_zero (a1 a2 : Option Addr) (pn pc qn qc : Nat) (p q : PS) (w : World) (hz : pn = 0 ∨ qn = 0) (hp2 : p.params.length = pn) (hq2 : q.params.length = qn) (hn : pn ≤ 1000) (hn2 : qn ≤ 1000) : Calls Tryd.prog 29 [.agg #[.int .i64 p.state, .int .u8 p.utf.b0, .int .u8 p.utf.b1, .int .u8 p.utf.b2, .int .i64 p.utf.n, .string p.marks, .slice a1 pn pc, .string p.text, .int .i64 p.within], .agg #[.int .i64 q.state, .int .u8 q.utf.b0, .int .u8 q.utf.b1, .int .u8 q.utf.b2, .int .i64 q.utf.n, .string q.marks, .slice a2 qn qc, .string q.text, .int .i64 q.within]].toArray w fun e w' => e = .returned (.bool (psB p q)) ∧ Ch (fun _ => False) w w' := by
 refine yA Tryd.func29 rfl <| ysr <| yo (yN [iX p.state, uX p.utf.b0, uX p.utf.b1, uX p.utf.b2, iX p.utf.n, .string p.marks, .slice a1 pn pc, .string p.text, iX p.within] 39 fun w10 b11 hb12 hz13 hB14 hc15 => ?_)
 have hlo16 : w.heap.size ≤ b11 := by rw [hb12]; exact Ch.size (Up.refl w.heap.size w)
 have hu17 := Up.step (Up.refl w.heap.size w) hc15 iZ
 refine yo (yN [iX q.state, uX q.utf.b0, uX q.utf.b1, uX q.utf.b2, iX q.utf.n, .string q.marks, .slice a2 qn qc, .string q.text, iX q.within] 39 fun w18 b19 hb20 hz21 hB22 hc23 => ?_)
 have hlo24 : w.heap.size ≤ b19 := by rw [hb20]; exact Ch.size hu17
 have hu25 := Up.step hu17 hc23 iZ
 have hB26 := hB14.ch hc23 id
 refine yp 3 [] .z <| ye <| ys <| ysr <| yp 6 [] (.l (hB26.c 0) (.l (hB22.c 0) .z)) <| yw [11] (rI p.state q.state) (fun hC27 => ?_) fun hC27 => ?_
 ·have hpp28 : decide (p.state = q.state) = false := decide_eq_false (by have := hC27; omega)
  refine yp 53 [] .z <| ye <| yct <| ysr <| yp 1 [] .z <| ye <| x_ret (rS (yR1 (.bool false) ?_))
  refine ⟨congrArg Ending.returned (congrArg Value.bool ?_), Up.ch hu25⟩
  simp only [psB, hpp28, Bool.false_and, Bool.true_and, Bool.and_false]
 have hpp29 : decide (p.state = q.state) = true := decide_eq_true (by have := hC27; omega)
 refine yp 13 [] (.l (hB26.c 8) (.l (hB22.c 8) .z)) <| yw [18] (rI p.within q.within) (fun hC30 => ?_) fun hC30 => ?_
 ·have hpp31 : decide (p.within = q.within) = false := decide_eq_false (by have := hC30; omega)
  refine yp 53 [] .z <| ye <| yct <| ysr <| yp 1 [] .z <| ye <| x_ret (rS (yR1 (.bool false) ?_))
  refine ⟨congrArg Ending.returned (congrArg Value.bool ?_), Up.ch hu25⟩
  simp only [psB, hpp29, hpp31, Bool.false_and, Bool.true_and, Bool.and_false]
 have hpp32 : decide (p.within = q.within) = true := decide_eq_true (by have := hC30; omega)
 refine yp 20 [] (.l (hB26.c 5) (.l (hB22.c 5) .z)) <| yw [25] (rN (rY ((p.marks).toList == (q.marks).toList))) (fun hC33 => ?_) fun hC33 => ?_
 ·have hpp34 := hC33
  refine yp 53 [] .z <| ye <| yct <| ysr <| yp 1 [] .z <| ye <| x_ret (rS (yR1 (.bool false) ?_))
  refine ⟨congrArg Ending.returned (congrArg Value.bool ?_), Up.ch hu25⟩
  simp only [psB, hpp29, hpp32, hpp34, Bool.false_and, Bool.true_and, Bool.and_false]
 have hpp35 := hC33
 refine yp 27 [] (.l (hB26.c 7) (.l (hB22.c 7) .z)) <| yw [32] (rN (rY ((p.text).toList == (q.text).toList))) (fun hC36 => ?_) fun hC36 => ?_
 ·have hpp37 := hC36
  refine yp 53 [] .z <| ye <| yct <| ysr <| yp 1 [] .z <| ye <| x_ret (rS (yR1 (.bool false) ?_))
  refine ⟨congrArg Ending.returned (congrArg Value.bool ?_), Up.ch hu25⟩
  simp only [psB, hpp29, hpp32, hpp35, hpp37, Bool.false_and, Bool.true_and, Bool.and_false]
 have hpp38 := hC36
 refine yp 36 [] (.l (hB26.c 4) (.l (hB22.c 4) .z)) <| yw [41] (rI p.utf.n q.utf.n) (fun hC39 => ?_) fun hC39 => ?_
 ·have hpp40 : decide (p.utf.n = q.utf.n) = false := decide_eq_false (by have := hC39; omega)
  refine yp 53 [] .z <| ye <| yct <| ysr <| yp 1 [] .z <| ye <| x_ret (rS (yR1 (.bool false) ?_))
  refine ⟨congrArg Ending.returned (congrArg Value.bool ?_), Up.ch hu25⟩
  simp only [psB, hpp29, hpp32, hpp35, hpp38, hpp40, Bool.false_and, Bool.true_and, Bool.and_false]
 have hpp41 : decide (p.utf.n = q.utf.n) = true := decide_eq_true (by have := hC39; omega)
 refine yp 45 [] (.a (hB26.cs 1 3) (.a (hB22.cs 1 3) .z)) <| yw [50] (rN (rY (((p.utf.b0 : Int) == q.utf.b0) && (((p.utf.b1 : Int) == q.utf.b1) && (((p.utf.b2 : Int) == q.utf.b2) && true))))) (fun hC42 => ?_) fun hC42 => ?_
 ·have hpp43 := hC42
  refine yp 53 [] .z <| ye <| yct <| ysr <| yp 1 [] .z <| ye <| x_ret (rS (yR1 (.bool false) ?_))
  refine ⟨congrArg Ending.returned (congrArg Value.bool ?_), Up.ch hu25⟩
  simp only [psB, hpp29, hpp32, hpp35, hpp38, hpp41, hpp43, Bool.false_and, Bool.true_and, Bool.and_false]
 have hpp44 := hC42
 refine yp 53 [] (.l (hB26.c 6) (.l (hB22.c 6) .z)) <| ye <| yc (rI ((pn : Nat) : Int) ((qn : Nat) : Int)) (fun hC45 => ?_) fun hC45 => ?_
 ·have hln := hC45
  refine ysr <| yp 1 [] .z <| ye <| x_ret (rS (yR1 (.bool false) ?_))
  have hpz : intsB p.params q.params = false := intsB_f (fun e => hln (by rw [← hp2, ← hq2, e]))
  refine ⟨congrArg Ending.returned (congrArg Value.bool ?_), Up.ch hu25⟩
  simp only [psB, hpp29, hpp32, hpp35, hpp38, hpp41, hpp44, hpz, Bool.false_and, Bool.true_and, Bool.and_false]
 have hll := hC45
 refine yk <| ys <| ysr <| yp 4 [] (.l (hB26.c 6) .z) <| ye <| x_block <| ykeep [2, 3, 61, 62] (f' := [(2, pX b11), (3, pX b19), (61, iX ((pn : Nat) : Int)), (62, iX 0)]) <| x_loop (σ := Nat) (fun k => [(2, pX b11), (3, pX b19), (61, iX ((pn : Nat) : Int)), (62, iX ((k : Nat) : Int))]) (fun k u => k ≤ pn ∧ p.params.take k = q.params.take k ∧ Ch (fun _ => False) w18 u) (fun k => pn - k) 0 rfl ?_ ?_
 ·exact ⟨Nat.zero_le _, rfl, Ch.refl _ _⟩
 intro k w46 hI47 K48 hL49
 obtain ⟨hk, hkt, hc50⟩ := hI47
 have hu51 := Up.step hu25 hc50 iZ
 refine ysr <| yp 1 [] .z <| ye <| ys <| yc (rL ((k : Nat) : Int) ((pn : Nat) : Int)) (fun hC54 => ?_) fun hC54 => ?_
 ·exfalso; omega
 have hkn : k = pn := by omega
 refine x_exit (eS (then_exit (block_exit (nS ?_))))
 refine ysr <| yp 1 [] .z <| ye <| x_ret (yR1 (.bool true) ?_)
 have hml : q.params.length = p.params.length := by omega
 have hpz : intsB p.params q.params = true := intsB_t (by rw [hkn, ← hp2, List.take_length, ← hml, List.take_length] at hkt; exact hkt)
 refine ⟨congrArg Ending.returned (congrArg Value.bool ?_), Up.ch hu51⟩
 simp only [psB, hpp29, hpp32, hpp35, hpp38, hpp41, hpp44, hpz, Bool.false_and, Bool.true_and, Bool.and_false]
theorem parsers_any {w : World} {a1 a2 : Option Addr} {pn pc qn qc : Nat} (p q : PS) (h1 : Rd w a1 (p.params.map (Value.int .i64))) (h2 : Rd w a2 (q.params.map (Value.int .i64))) (z1 : ∃ po : Option Nat, a1 = po.map at0) (z2 : ∃ po : Option Nat, a2 = po.map at0) (hp2 : p.params.length = pn) (hq2 : q.params.length = qn) (hn : pn ≤ 1000) (hn2 : qn ≤ 1000) :
    Calls Tryd.prog 29 [.agg #[iX p.state, uX p.utf.b0, uX p.utf.b1, uX p.utf.b2, iX p.utf.n, .string p.marks, .slice a1 pn pc, .string p.text, iX p.within], .agg #[iX q.state, uX q.utf.b0, uX q.utf.b1, uX q.utf.b2, iX q.utf.n, .string q.marks, .slice a2 qn qc, .string q.text, iX q.within]].toArray w fun e w' => e = .returned (.bool (psB p q)) ∧ Ch (fun _ => False) w w' := by
  obtain ⟨o1, rfl⟩ := z1
  obtain ⟨o2, rfl⟩ := z2
  rcases o1 with _ | b1
  · exact parsers_zero _ _ pn pc qn qc p q w (.inl (by have := h1.1 rfl; rw [← hp2]; simpa using congrArg List.length this)) hp2 hq2 hn hn2
  · rcases o2 with _ | b2
    · exact parsers_zero _ _ pn pc qn qc p q w (.inr (by have := h2.1 rfl; rw [← hq2]; simpa using congrArg List.length this)) hp2 hq2 hn hn2
    · exact parsers_some b1 b2 pn pc qn qc p q w h1 h2 hp2 hq2 hn hn2
set_option maxRecDepth 100000 in
set_option maxHeartbeats 4000000 in
theorem alike_in {w : World} {t1 g1 o1 : Nat} {ba1 : Option Addr} {bn1 bc1 : Nat} {pa1 : Option Addr} {pn1 pc1 : Nat} {T : TS} {F1 F11 F21 FB1 FP1 : Nat → Prop} (hI1 : TermIn w t1 g1 o1 ba1 bn1 bc1 pa1 pn1 pc1 T F1 F11 F21 FB1 FP1) (hbn1 : bn1 ≤ 1000) (hpn1 : pn1 ≤ 1000) {t2 g2 o2 : Nat} {ba2 : Option Addr} {bn2 bc2 : Nat} {pa2 : Option Addr} {pn2 pc2 : Nat} {U : TS} {F2 F12 F22 FB2 FP2 : Nat → Prop} (hI2 : TermIn w t2 g2 o2 ba2 bn2 bc2 pa2 pn2 pc2 U F2 F12 F22 FB2 FP2) (hbn2 : bn2 ≤ 1000) (hpn2 : pn2 ≤ 1000) : Calls Tryd.prog 16 [.pointer (some ⟨t1, 0, none⟩), .pointer (some ⟨t2, 0, none⟩)].toArray w fun e w' => e = .returned (.bool (alikeB T U)) ∧ Ch (fun _ => False) w w' := by
 refine yA Tryd.func16 rfl <| ysr <| yp 1 [] .z <| ye <| ys <| ys <| yD [8, 19, 31] fun w10 hH11 hc12 => ?_
 have hu13 := Up.step (Up.refl w.heap.size w) hc12 iZ
 have ht14 := hI1.blk.ch hc12 id
 have ht15 := hI2.blk.ch hc12 id
 refine x_gfree (by kernel_rfl) (fun hfr16 => ?_)
 refine yg hfr16 (uL 0 8) [] (.l (ht14.c 0) (.l (ht15.c 0) .z)) <| yK 8 (yQ (gsame_any (hI1.same (Up.ch hu13) iZ).g1 (hI2.same (Up.ch hu13) iZ).g1) fun w18 hc17 => ?_)
 have hu19 := Up.step hu13 hc17 iZ
 have ht20 := ht14.ch hc17 id
 have ht21 := ht15.ch hc17 id
 refine x_killed <| yg hfr16 [9, 10] [] .z <| yv [15] (rN (rY (grB T.grid U.grid))) (fun hC22 => ?_) fun hC22 => ?_
 ·have hpp23 := hC22
  refine yg hfr16 (uL 11 56) [] .z <| yGe (nS ?_)
  refine yct <| ysr <| yp 1 [] .z <| ye <| x_ret (rS (yR1 (.bool false) ?_))
  refine ⟨congrArg Ending.returned (congrArg Value.bool ?_), Up.ch hu19⟩
  simp only [alikeB, hpp23, Bool.false_and, Bool.true_and, Bool.and_false]
 have hpp24 := hC22
 refine yg hfr16 (uL 11 8) [] (.l (ht20.c 1) (.l (ht21.c 1) .z)) <| yK 19 (yQ (gsame_any (hI1.same (Up.ch hu19) iZ).g2 (hI2.same (Up.ch hu19) iZ).g2) fun w26 hc25 => ?_)
 have hu27 := Up.step hu19 hc25 iZ
 have ht28 := ht20.ch hc25 id
 have ht29 := ht21.ch hc25 id
 refine x_killed <| yg hfr16 (uL 20 3) [] .z <| yv [27] (rN (rY (grB T.other U.other))) (fun hC30 => ?_) fun hC30 => ?_
 ·have hpp31 := hC30
  refine yg hfr16 (uL 23 44) [] .z <| yGe (nS ?_)
  refine yct <| ysr <| yp 1 [] .z <| ye <| x_ret (rS (yR1 (.bool false) ?_))
  refine ⟨congrArg Ending.returned (congrArg Value.bool ?_), Up.ch hu27⟩
  simp only [alikeB, hpp24, hpp31, Bool.false_and, Bool.true_and, Bool.and_false]
 have hpp32 := hC30
 refine yg hfr16 (uL 23 8) [] (.l (ht28.c 97) (.l (ht29.c 97) .z)) ?_
 obtain ⟨rows1, hR1, hRM1⟩ := (hI1.same (Up.ch hu27) iZ).bk
 obtain ⟨rows2, hR2, hRM2⟩ := (hI2.same (Up.ch hu27) iZ).bk
 refine yK 31 (yQ (lines_any (c1 := bc1) (c2 := bc2) hR1 hR2 hI1.bz hI2.bz hRM1 hRM2 (by omega)) fun w34 hc33 => ?_)
 have hu35 := Up.step hu27 hc33 iZ
 have ht36 := ht28.ch hc33 id
 have ht37 := ht29.ch hc33 id
 refine x_killed <| yg hfr16 (uL 32 3) [] .z <| yv [39] (rN (rY (eqRB T.back U.back))) (fun hC38 => ?_) fun hC38 => ?_
 ·have hpp39 := hC38
  refine yg hfr16 (uL 35 32) [] .z <| yGe (nS ?_)
  refine yct <| ysr <| yp 1 [] .z <| ye <| x_ret (rS (yR1 (.bool false) ?_))
  refine ⟨congrArg Ending.returned (congrArg Value.bool ?_), Up.ch hu35⟩
  simp only [alikeB, hpp24, hpp32, hpp39, Bool.false_and, Bool.true_and, Bool.and_false]
 have hpp40 := hC38
 refine yg hfr16 (uL 35 11) [] (.a (ht36.cs 2 8) (.a (ht37.cs 2 8) .z)) <| yv [50] (rN (rY (((T.cursor.x : Int) == U.cursor.x) && (((T.cursor.y : Int) == U.cursor.y) && ((T.cursor.late == U.cursor.late) && (((T.cursor.sty.bold == U.cursor.sty.bold) && ((T.cursor.sty.under == U.cursor.sty.under) && ((T.cursor.sty.turned == U.cursor.sty.turned) && (((T.cursor.sty.fore : Int) == U.cursor.sty.fore) && (((T.cursor.sty.back : Int) == U.cursor.sty.back) && true))))) && true)))))) (fun hC41 => ?_) fun hC41 => ?_
 ·have hpp42 := hC41
  refine yg hfr16 (uL 46 21) [] .z <| yGe (nS ?_)
  refine yct <| ysr <| yp 1 [] .z <| ye <| x_ret (rS (yR1 (.bool false) ?_))
  refine ⟨congrArg Ending.returned (congrArg Value.bool ?_), Up.ch hu35⟩
  simp only [alikeB, hpp24, hpp32, hpp40, hpp42, Bool.false_and, Bool.true_and, Bool.and_false]
 have hpp43 := hC41
 refine yg hfr16 (uL 46 11) [] (.a (ht36.cs 18 8) (.a (ht37.cs 18 8) .z)) <| yv [61] (rN (rY (((T.away.x : Int) == U.away.x) && (((T.away.y : Int) == U.away.y) && ((T.away.late == U.away.late) && (((T.away.sty.bold == U.away.sty.bold) && ((T.away.sty.under == U.away.sty.under) && ((T.away.sty.turned == U.away.sty.turned) && (((T.away.sty.fore : Int) == U.away.sty.fore) && (((T.away.sty.back : Int) == U.away.sty.back) && true))))) && true)))))) (fun hC44 => ?_) fun hC44 => ?_
 ·have hpp45 := hC44
  refine yg hfr16 (uL 57 10) [] .z <| yGe (nS ?_)
  refine yct <| ysr <| yp 1 [] .z <| ye <| x_ret (rS (yR1 (.bool false) ?_))
  refine ⟨congrArg Ending.returned (congrArg Value.bool ?_), Up.ch hu35⟩
  simp only [alikeB, hpp24, hpp32, hpp40, hpp43, hpp45, Bool.false_and, Bool.true_and, Bool.and_false]
 have hpp46 := hC44
 refine yg hfr16 (uL 57 10) [] (.a (ht36.cs 10 8) (.a (ht37.cs 10 8) .z)) <| yGe (nS ?_)
 refine yc (rN (rY (((T.saved.x : Int) == U.saved.x) && (((T.saved.y : Int) == U.saved.y) && ((T.saved.late == U.saved.late) && (((T.saved.sty.bold == U.saved.sty.bold) && ((T.saved.sty.under == U.saved.sty.under) && ((T.saved.sty.turned == U.saved.sty.turned) && (((T.saved.sty.fore : Int) == U.saved.sty.fore) && (((T.saved.sty.back : Int) == U.saved.sty.back) && true))))) && true)))))) (fun hC47 => ?_) fun hC47 => ?_
 ·have hpp48 := hC47
  refine ysr <| yp 1 [] .z <| ye <| x_ret (rS (yR1 (.bool false) ?_))
  refine ⟨congrArg Ending.returned (congrArg Value.bool ?_), Up.ch hu35⟩
  simp only [alikeB, hpp24, hpp32, hpp40, hpp43, hpp46, hpp48, Bool.false_and, Bool.true_and, Bool.and_false]
 have hpp49 := hC47
 refine yk <| ys <| ys <| yD [] fun w50 hH51 hc52 => ?_
 have hu53 := Up.step hu35 hc52 iZ
 have ht54 := ht36.ch hc52 id
 have ht55 := ht37.ch hc52 id
 refine x_gfree (by kernel_rfl) (fun hfr56 => ?_)
 refine yg hfr56 (uL 0 10) [] (.l (ht54.c 26) (.l (ht55.c 26) .z)) <| yv [81] (rI T.top U.top) (fun hC57 => ?_) fun hC57 => ?_
 ·have hpp58 : decide (T.top = U.top) = false := decide_eq_false (by have := hC57; omega)
  refine yg hfr56 (uL 10 87) [] .z <| dkeep [0, 1, 168] (f' := [(0, pX t1), (1, pX t2), (168, .bool true)]) <| yGe (nS ?_)
  refine yct <| ysr <| yp 1 [] .z <| ye <| x_ret (rS (yR1 (.bool false) ?_))
  refine ⟨congrArg Ending.returned (congrArg Value.bool ?_), Up.ch hu53⟩
  simp only [alikeB, hpp24, hpp32, hpp40, hpp43, hpp46, hpp49, hpp58, Bool.false_and, Bool.true_and, Bool.and_false]
 have hpp59 : decide (T.top = U.top) = true := decide_eq_true (by have := hC57; omega)
 refine yg hfr56 (uL 10 11) [] (.l (ht54.c 27) (.l (ht55.c 27) .z)) <| yv [92] (rI T.bot U.bot) (fun hC60 => ?_) fun hC60 => ?_
 ·have hpp61 : decide (T.bot = U.bot) = false := decide_eq_false (by have := hC60; omega)
  refine yg hfr56 (uL 21 76) [] .z <| dkeep [0, 1, 168] (f' := [(0, pX t1), (1, pX t2), (168, .bool true)]) <| yGe (nS ?_)
  refine yct <| ysr <| yp 1 [] .z <| ye <| x_ret (rS (yR1 (.bool false) ?_))
  refine ⟨congrArg Ending.returned (congrArg Value.bool ?_), Up.ch hu53⟩
  simp only [alikeB, hpp24, hpp32, hpp40, hpp43, hpp46, hpp49, hpp59, hpp61, Bool.false_and, Bool.true_and, Bool.and_false]
 have hpp62 : decide (T.bot = U.bot) = true := decide_eq_true (by have := hC60; omega)
 refine yg hfr56 (uL 21 11) [] (.a (tabs_of ht54) (.a (tabs_of ht55) .z)) <| yv [103] (rN (rY (tabsB T.tabs U.tabs))) (fun hC63 => ?_) fun hC63 => ?_
 ·have hpp64 := hC63
  refine yg hfr56 (uL 32 65) [] .z <| dkeep [0, 1, 168] (f' := [(0, pX t1), (1, pX t2), (168, .bool true)]) <| yGe (nS ?_)
  refine yct <| ysr <| yp 1 [] .z <| ye <| x_ret (rS (yR1 (.bool false) ?_))
  refine ⟨congrArg Ending.returned (congrArg Value.bool ?_), Up.ch hu53⟩
  simp only [alikeB, hpp24, hpp32, hpp40, hpp43, hpp46, hpp49, hpp59, hpp62, hpp64, Bool.false_and, Bool.true_and, Bool.and_false]
 have hpp65 := hC63
 refine yg hfr56 (uL 32 11) [] (.l (ht54.c 88) (.l (ht55.c 88) .z)) <| yv [114] (rN (rY (T.wrap == U.wrap))) (fun hC66 => ?_) fun hC66 => ?_
 ·have hpp67 := hC66
  refine yg hfr56 (uL 43 54) [] .z <| dkeep [0, 1, 168] (f' := [(0, pX t1), (1, pX t2), (168, .bool true)]) <| yGe (nS ?_)
  refine yct <| ysr <| yp 1 [] .z <| ye <| x_ret (rS (yR1 (.bool false) ?_))
  refine ⟨congrArg Ending.returned (congrArg Value.bool ?_), Up.ch hu53⟩
  simp only [alikeB, hpp24, hpp32, hpp40, hpp43, hpp46, hpp49, hpp59, hpp62, hpp65, hpp67, Bool.false_and, Bool.true_and, Bool.and_false]
 have hpp68 := hC66
 refine yg hfr56 (uL 43 11) [] (.l (ht54.c 89) (.l (ht55.c 89) .z)) <| yv [125] (rN (rY (T.origin == U.origin))) (fun hC69 => ?_) fun hC69 => ?_
 ·have hpp70 := hC69
  refine yg hfr56 (uL 54 43) [] .z <| dkeep [0, 1, 168] (f' := [(0, pX t1), (1, pX t2), (168, .bool true)]) <| yGe (nS ?_)
  refine yct <| ysr <| yp 1 [] .z <| ye <| x_ret (rS (yR1 (.bool false) ?_))
  refine ⟨congrArg Ending.returned (congrArg Value.bool ?_), Up.ch hu53⟩
  simp only [alikeB, hpp24, hpp32, hpp40, hpp43, hpp46, hpp49, hpp59, hpp62, hpp65, hpp68, hpp70, Bool.false_and, Bool.true_and, Bool.and_false]
 have hpp71 := hC69
 refine yg hfr56 (uL 54 11) [] (.l (ht54.c 90) (.l (ht55.c 90) .z)) <| dkeep [0, 1, 136] (f' := [(0, pX t1), (1, pX t2), (136, .bool (!(T.insert == U.insert)))]) <| yv [136] (rN (rY (T.insert == U.insert))) (fun hC72 => ?_) fun hC72 => ?_
 ·have hpp73 := hC72
  refine yg hfr56 (uL 65 32) [] .z <| yGe (nS ?_)
  refine yct <| ysr <| yp 1 [] .z <| ye <| x_ret (rS (yR1 (.bool false) ?_))
  refine ⟨congrArg Ending.returned (congrArg Value.bool ?_), Up.ch hu53⟩
  simp only [alikeB, hpp24, hpp32, hpp40, hpp43, hpp46, hpp49, hpp59, hpp62, hpp65, hpp68, hpp71, hpp73, Bool.false_and, Bool.true_and, Bool.and_false]
 have hpp74 := hC72
 refine yg hfr56 (uL 65 11) [] (.l (ht54.c 91) (.l (ht55.c 91) .z)) <| yv [147] (rN (rY (T.hidden == U.hidden))) (fun hC75 => ?_) fun hC75 => ?_
 ·have hpp76 := hC75
  refine yg hfr56 (uL 76 21) [] .z <| yGe (nS ?_)
  refine yct <| ysr <| yp 1 [] .z <| ye <| x_ret (rS (yR1 (.bool false) ?_))
  refine ⟨congrArg Ending.returned (congrArg Value.bool ?_), Up.ch hu53⟩
  simp only [alikeB, hpp24, hpp32, hpp40, hpp43, hpp46, hpp49, hpp59, hpp62, hpp65, hpp68, hpp71, hpp74, hpp76, Bool.false_and, Bool.true_and, Bool.and_false]
 have hpp77 := hC75
 refine yg hfr56 (uL 76 11) [] (.a (ht54.cs 92 2) (.a (ht55.cs 92 2) .z)) <| yv [158] (rN (rY ((T.draw0 == U.draw0) && ((T.draw1 == U.draw1) && true)))) (fun hC78 => ?_) fun hC78 => ?_
 ·have hpp79 := hC78
  refine yg hfr56 (uL 87 10) [] .z <| yGe (nS ?_)
  refine yct <| ysr <| yp 1 [] .z <| ye <| x_ret (rS (yR1 (.bool false) ?_))
  refine ⟨congrArg Ending.returned (congrArg Value.bool ?_), Up.ch hu53⟩
  simp only [alikeB, hpp24, hpp32, hpp40, hpp43, hpp46, hpp49, hpp59, hpp62, hpp65, hpp68, hpp71, hpp74, hpp77, hpp79, Bool.false_and, Bool.true_and, Bool.and_false]
 have hpp80 := hC78
 refine yg hfr56 (uL 87 10) [] (.l (ht54.c 94) (.l (ht55.c 94) .z)) <| yGe (nS ?_)
 refine yc (rN (rY (T.shift == U.shift))) (fun hC81 => ?_) fun hC81 => ?_
 ·have hpp82 := hC81
  refine ysr <| yp 1 [] .z <| ye <| x_ret (rS (yR1 (.bool false) ?_))
  refine ⟨congrArg Ending.returned (congrArg Value.bool ?_), Up.ch hu53⟩
  simp only [alikeB, hpp24, hpp32, hpp40, hpp43, hpp46, hpp49, hpp59, hpp62, hpp65, hpp68, hpp71, hpp74, hpp77, hpp80, hpp82, Bool.false_and, Bool.true_and, Bool.and_false]
 have hpp83 := hC81
 refine yk <| ys <| yD [40] fun w84 hH85 hc86 => ?_
 have hu87 := Up.step hu53 hc86 iZ
 have ht88 := ht54.ch hc86 id
 have ht89 := ht55.ch hc86 id
 refine x_gfree (by kernel_rfl) (fun hfr90 => ?_)
 refine yg hfr90 (uL 0 10) [] (.l (ht88.c 95) (.l (ht89.c 95) .z)) <| yv [178] (rY (T.alt == U.alt)) (fun hC91 => ?_) fun hC91 => ?_
 ·have hpp92 := hC91
  refine yg hfr90 (uL 10 11) [] (.l (ht88.c 96) (.l (ht89.c 96) .z)) <| yv [189] (rY ((T.title).toList == (U.title).toList)) (fun hC93 => ?_) fun hC93 => ?_
  ·have hpp94 := hC93
   refine yg hfr90 (uL 21 11) [] (.l (ht88.c 107) (.l (ht89.c 107) .z)) <| yv [200] (rY ((T.reply).toList == (U.reply).toList)) (fun hC95 => ?_) fun hC95 => ?_
   ·have hpp96 := hC95
    refine yg hfr90 (uL 32 8) [] (.a (ht88.cs 98 9) (.a (ht89.cs 98 9) .z)) <| yK 40 (yQ (parsers_any (pc := pc1) (qc := pc2) T.parser U.parser (hI1.same (Up.ch hu87) iZ).ps.1 (hI2.same (Up.ch hu87) iZ).ps.1 hI1.pz hI2.pz hI1.ps.2.1 hI2.ps.2.1 (by omega) (by omega)) fun w98 hc97 => ?_)
    have hu99 := Up.step hu87 hc97 iZ
    refine x_killed <| yg hfr90 [41, 42] [] .z <| yGe (nS ?_)
    refine x_ret (yR1 (.bool (psB T.parser U.parser)) ?_)
    refine ⟨congrArg Ending.returned (congrArg Value.bool ?_), Up.ch hu99⟩
    simp only [alikeB, hpp24, hpp32, hpp40, hpp43, hpp46, hpp49, hpp59, hpp62, hpp65, hpp68, hpp71, hpp74, hpp77, hpp80, hpp83, hpp92, hpp94, hpp96, Bool.false_and, Bool.true_and, Bool.and_false]
   have hpp102 := hC95
   refine yg hfr90 (uL 32 11) [] .z <| yGe (nS ?_)
   refine x_ret (yR1 (.bool false) ?_)
   refine ⟨congrArg Ending.returned (congrArg Value.bool ?_), Up.ch hu87⟩
   simp only [alikeB, hpp24, hpp32, hpp40, hpp43, hpp46, hpp49, hpp59, hpp62, hpp65, hpp68, hpp71, hpp74, hpp77, hpp80, hpp83, hpp92, hpp94, hpp102, Bool.false_and, Bool.true_and, Bool.and_false]
  have hpp103 := hC93
  refine yg hfr90 (uL 21 22) [] .z <| yGe (nS ?_)
  refine x_ret (yR1 (.bool false) ?_)
  refine ⟨congrArg Ending.returned (congrArg Value.bool ?_), Up.ch hu87⟩
  simp only [alikeB, hpp24, hpp32, hpp40, hpp43, hpp46, hpp49, hpp59, hpp62, hpp65, hpp68, hpp71, hpp74, hpp77, hpp80, hpp83, hpp92, hpp103, Bool.false_and, Bool.true_and, Bool.and_false]
 have hpp104 := hC91
 refine yg hfr90 (uL 10 33) [] .z <| yGe (nS ?_)
 refine x_ret (yR1 (.bool false) ?_)
 refine ⟨congrArg Ending.returned (congrArg Value.bool ?_), Up.ch hu87⟩
 simp only [alikeB, hpp24, hpp32, hpp40, hpp43, hpp46, hpp49, hpp59, hpp62, hpp65, hpp68, hpp71, hpp74, hpp77, hpp80, hpp83, hpp104, Bool.false_and, Bool.true_and, Bool.and_false]
theorem alike_at {w : World} {t1 t2 : Nat} {T U : TS} {F1 F2 : Nat → Prop} (h1 : TermAt w t1 T F1) (h2 : TermAt w t2 U F2) (b1 : T.back.length ≤ 1000) (b2 : U.back.length ≤ 1000) (p1 : T.parser.params.length ≤ 1000) (p2 : U.parser.params.length ≤ 1000) : Calls Tryd.prog 16 [.pointer (some ⟨t1, 0, none⟩), .pointer (some ⟨t2, 0, none⟩)].toArray w fun e w' => e = .returned (.bool (alikeB T U)) ∧ Ch (fun _ => False) w w' := by
 obtain ⟨g1, o1, ba1, bn1, bc1, pa1, pn1, pc1, F11, F21, FB1, FP1, h1⟩ := h1
 obtain ⟨g2, o2, ba2, bn2, bc2, pa2, pn2, pc2, F12, F22, FB2, FP2, h2⟩ := h2
 refine alike_in h1 ?_ ?_ h2 ?_ ?_
 ·obtain ⟨rows, hL, e⟩ := h1.bk
  rw [← hL.len]; rw [← e, List.length_map] at b1; exact b1
 ·rw [← h1.ps.2.1]; exact p1
 ·obtain ⟨rows, hL, e⟩ := h2.bk
  rw [← hL.len]; rw [← e, List.length_map] at b2; exact b2
 rw [← h2.ps.2.1]; exact p2
end Go.Proofs.YteoejhjfbfacdaaDoor.X
namespace Go.Proofs.YteoejhjfbfacdaaDoor.X
open Go Go.RowKit Go.Proofs.YteoejhjfbfacdaaDoor
def Fine (T : TS) : Prop := (∃ W H, Lim W H T) ∧ T.parser.lim
theorem fine_start (p1 p2 : Int) : Fine (startT zeroT p1 p2) := ⟨⟨_, _, lim_start zeroT p1 p2 (by decide)⟩, plim_at 0⟩
theorem fine_write {T : TS} (h : Fine T) (s : ByteArray) : Fine (writeT T s) := by
 obtain ⟨⟨W, H, h⟩, hp⟩ := h
 exact ⟨⟨W, H, lim_write h s _⟩, plim_write hp s _⟩
theorem fine_take {T : TS} (h : Fine T) : Fine ({ T with reply := ByteArray.empty } : TS) := by
 obtain ⟨⟨W, H, h⟩, hp⟩ := h
 exact ⟨⟨W, H, { h with rp := Nat.zero_le _ }⟩, hp⟩
structure Sys (w0 w : World) (bs : List (Nat × List Value × TypeId)) (ts : List (Nat × TS)) : Prop where
 ch : Ch (fun _ => False) w0 w
 lt : LT w
 top : gTop ≤ w0.heap.size
 blk : ∀ (i : Nat) x, bs[i]? = some x → Blk w x.1 x.2.1 x.2.2
 lo : ∀ (i : Nat) x, bs[i]? = some x → w0.heap.size ≤ x.1
 df : ∀ (i j : Nat) x y, bs[i]? = some x → bs[j]? = some y → i ≠ j → x.1 ≠ y.1
 tm : ∃ F : Nat → Nat → Prop, (∀ (i : Nat) x, ts[i]? = some x → TermAt w x.1 x.2 (F i) ∧ Fine x.2) ∧ (∀ i j, i ≠ j → ∀ b, F i b → ¬ F j b) ∧ (∀ i b, F i b → w0.heap.size ≤ b ∧ b < w.heap.size) ∧ ∀ (i j : Nat) x, bs[i]? = some x → ¬ F j x.1
section
variable {w0 w w' : World} {bs : List (Nat × List Value × TypeId)} {ts : List (Nat × TS)}
theorem Sys.start (h : LT w) (h7 : gTop ≤ w.heap.size) : Sys w w [] [] := ⟨Ch.refl _ _, h, h7, fun i x e => by simp at e, fun i x e => by simp at e, fun i j x y e => by simp at e, fun _ _ => False, fun i x e => by simp at e, fun _ _ _ _ h => h.elim, fun _ _ h => h.elim, fun _ _ _ _ h => h.elim⟩
theorem Sys.same (h : Sys w0 w bs ts) (hc : Ch (fun _ => False) w w') : Sys w0 w' bs ts := by
 obtain ⟨F, h1, h2, h3, h4⟩ := h.tm
 exact ⟨h.ch.trans hc (fun _ _ h => h), lt_ch hc h.lt (fun _ h => h.elim), h.top, fun i x e => (h.blk i x e).ch hc (fun h => h), h.lo, h.df, F, fun i x e => ⟨(h1 i x e).1.ch hc (fun _ _ h => h), (h1 i x e).2⟩, h2, fun i b hb => ⟨(h3 i b hb).1, Nat.lt_of_lt_of_le (h3 i b hb).2 hc.size⟩, h4⟩
theorem Sys.box (h : Sys w0 w bs ts) (hc : Ch (fun _ => False) w w') {b : Nat} {vs : List Value} {ty : TypeId} (hb : Blk w' b vs ty) (hz : w.heap.size ≤ b) : Sys w0 w' (bs ++ [(b, vs, ty)]) ts := by
 have h' := h.same hc
 obtain ⟨F, h1, h2, h3, h4⟩ := h.tm
 obtain ⟨F', g1, g2, g3, g4⟩ := h'.tm
 have one : ∀ i x, (bs ++ [(b, vs, ty)])[i]? = some x → bs[i]? = some x ∨ (i = bs.length ∧ x = (b, vs, ty)) := fun i x e => by
  rcases Nat.lt_or_ge i bs.length with hi | hi
  ·rw [List.getElem?_append_left hi] at e; exact .inl e
  ·rw [List.getElem?_append_right hi] at e
   rcases Nat.eq_zero_or_pos (i - bs.length) with h0 | h0
   ·rw [h0] at e; exact .inr ⟨by omega, (Option.some.inj e).symm⟩
   ·rw [List.getElem?_eq_none (by simp only [List.length_cons, List.length_nil]; omega)] at e; cases e
 refine ⟨h'.ch, h'.lt, h'.top, fun i x e => ?_, fun i x e => ?_, fun i j x y e e' hne => ?_, F, fun i x e => ⟨(h1 i x e).1.ch hc (fun _ _ h => h), (h1 i x e).2⟩, h2, fun i b hb => ⟨(h3 i b hb).1, Nat.lt_of_lt_of_le (h3 i b hb).2 hc.size⟩, fun i j x e => ?_⟩
 ·rcases one i x e with e | ⟨_, rfl⟩
  ·exact h'.blk i x e
  ·exact hb
 ·rcases one i x e with e | ⟨_, rfl⟩
  ·exact h.lo i x e
  ·have := h.ch.size; dsimp only; omega
 ·rcases one i x e with e1 | ⟨h1, rfl⟩
  ·rcases one j y e' with e2 | ⟨h2, rfl⟩
   ·exact h.df i j x y e1 e2 hne
   ·have := (h.blk i x e1).lt; dsimp only; omega
  ·rcases one j y e' with e2 | ⟨h2, rfl⟩
   ·have := (h.blk j y e2).lt; dsimp only; omega
   ·omega
 ·rcases one i x e with e | ⟨_, rfl⟩
  ·exact h4 i j x e
  ·exact fun hf => by have := (h3 j b hf).2; omega
theorem Sys.set (h : Sys w0 w bs ts) (i : Nat) {b : Nat} {vs vs' : List Value} {ty : TypeId} (hi : bs[i]? = some (b, vs, ty)) (hc : Ch (fun j => j = b) w w') (hb : Blk w' b vs' ty) : Sys w0 w' (bs.set i (b, vs', ty)) ts := by
 obtain ⟨F, h1, h2, h3, h4⟩ := h.tm
 have hlo := h.lo i _ hi
 have hlen : i < bs.length := (List.getElem?_eq_some_iff.1 hi).1
 have key : ∀ j x, (bs.set i (b, vs', ty))[j]? = some x → (j = i ∧ x = (b, vs', ty)) ∨ (j ≠ i ∧ bs[j]? = some x) := fun j x e => by
  by_cases hj : j = i
  ·subst hj; rw [List.getElem?_set_self hlen] at e; exact .inl ⟨rfl, (Option.some.inj e).symm⟩
  ·rw [List.getElem?_set_ne (fun h => hj h.symm)] at e; exact .inr ⟨hj, e⟩
 have nF : ∀ j, ¬ F j b := fun j => h4 i j _ hi
 refine ⟨h.ch.trans hc (fun k hk e => by dsimp only at hlo; omega), lt_ch hc h.lt (fun k e => by have := h.top; dsimp only at hlo; omega), h.top, fun j x e => ?_, fun j x e => ?_, fun j k x y e e' hne => ?_, F, fun j x e => ⟨(h1 j x e).1.ch hc (fun k hk e' => nF j (e' ▸ hk)), (h1 j x e).2⟩, h2, fun j k hk => ⟨(h3 j k hk).1, Nat.lt_of_lt_of_le (h3 j k hk).2 hc.size⟩, fun j k x e => ?_⟩
 ·rcases key j x e with ⟨_, rfl⟩ | ⟨hj, e⟩
  ·exact hb
  ·exact (h.blk j x e).ch hc (h.df j i x _ e hi hj)
 ·rcases key j x e with ⟨_, rfl⟩ | ⟨hj, e⟩
  ·exact hlo
  ·exact h.lo j x e
 ·rcases key j x e with ⟨h5, rfl⟩ | ⟨hj, e⟩
  ·rcases key k y e' with ⟨h6, rfl⟩ | ⟨hk, e'⟩
   ·omega
   ·exact h.df i k (b, vs, ty) y hi e' (by omega)
  ·rcases key k y e' with ⟨h6, rfl⟩ | ⟨hk, e'⟩
   ·exact h.df j i x (b, vs, ty) e hi hj
   ·exact h.df j k x y e e' hne
 ·rcases key j x e with ⟨_, rfl⟩ | ⟨hj, e⟩
  ·exact nF k
  ·exact h4 j k x e
theorem Sys.pre {bs' : List (Nat × List Value × TypeId)} (h : Sys w0 w (bs ++ bs') ts) : Sys w0 w bs ts := by
 obtain ⟨F, h1, h2, h3, h4⟩ := h.tm
 have key : ∀ (i : Nat) x, bs[i]? = some x → (bs ++ bs')[i]? = some x := fun i x e => by rw [List.getElem?_append_left (List.getElem?_eq_some_iff.1 e).1]; exact e
 exact ⟨h.ch, h.lt, h.top, fun i x e => h.blk i x (key i x e), fun i x e => h.lo i x (key i x e), fun i j x y e e' => h.df i j x y (key i x e) (key j y e'), F, h1, h2, h3, fun i j x e => h4 i j x (key i x e)⟩
theorem Sys.new (h : Sys w0 w bs ts) (p1 p2 : Int) : Calls Tryd.prog 11 [.int .i64 p1, .int .i64 p2].toArray w fun e w' => ∃ t, e = .returned (.pointer (some ⟨t, 0, none⟩)) ∧ Sys w0 w' bs (ts ++ [(t, startT zeroT p1 p2)]) ∧ Ch (fun _ => False) w w' := by
 refine (tnew_any p1 p2 w h.lt (Nat.le_trans h.top h.ch.size)).mono fun e w' ⟨t, he, hA, hc⟩ => ⟨t, he, ?_, hc⟩
 obtain ⟨F, h1, h2, h3, h4⟩ := h.tm
 have h' := h.same hc
 have hz := hc.size
 have hz0 := h.ch.size
 have ht : TermAt w' t (startT zeroT p1 p2) (fun b => w.heap.size ≤ b ∧ b < w'.heap.size) := hA
 refine ⟨h'.ch, h'.lt, h'.top, h'.blk, h'.lo, h'.df, fun i b => if i = ts.length then w.heap.size ≤ b ∧ b < w'.heap.size else i < ts.length ∧ F i b, fun i x e => ?_, fun i j hij b hb hb' => ?_, fun i b hb => ?_, fun i j x e hb => ?_⟩
 ·rcases Nat.lt_or_ge i ts.length with hi | hi
  ·rw [List.getElem?_append_left hi] at e
   refine ⟨?_, (h1 i x e).2⟩
   have e2 : (fun b => if i = ts.length then w.heap.size ≤ b ∧ b < w'.heap.size else i < ts.length ∧ F i b) = F i := by
    funext b; rw [if_neg (by omega)]; exact propext ⟨fun h => h.2, fun h => ⟨hi, h⟩⟩
   show TermAt w' x.1 x.2 (fun b => if i = ts.length then w.heap.size ≤ b ∧ b < w'.heap.size else i < ts.length ∧ F i b)
   rw [e2]
   exact (h1 i x e).1.ch hc (fun _ _ h => h)
  ·rw [List.getElem?_append_right hi] at e
   rcases Nat.eq_zero_or_pos (i - ts.length) with h0 | h0
   ·rw [h0] at e
    obtain rfl := (Option.some.inj e).symm
    obtain rfl : i = ts.length := by omega
    simp only [if_true]
    exact ⟨ht, fine_start p1 p2⟩
   ·rw [List.getElem?_eq_none (by simp only [List.length_cons, List.length_nil]; omega)] at e; cases e
 ·dsimp only at hb hb'
  split at hb
  ·split at hb'
   ·omega
   ·have := (h3 j b hb'.2).2; omega
  ·split at hb'
   ·have := (h3 i b hb.2).2; omega
   ·exact h2 i j hij b hb.2 hb'.2
 ·dsimp only at hb
  split at hb
  ·omega
  ·have := h3 i b hb.2; omega
 ·dsimp only at hb
  split at hb
  ·have := (h.blk i x e).lt; omega
  ·exact h4 i j x e hb.2
theorem Sys.step (h : Sys w0 w bs ts) {i t : Nat} {T T' : TS} (hi : ts[i]? = some (t, T)) {k : FuncId} {args : Array Value} {v : Value}
  (hk : ∀ F, TermAt w t T F → LT w → Fine T → Calls Tryd.prog k args w fun e w' => e = .returned v ∧ TermAt w' t T' (more F w w') ∧ Ch F w w') (hf : Fine T → Fine T') :
  Calls Tryd.prog k args w fun e w' => e = .returned v ∧ Sys w0 w' bs (ts.set i (t, T')) := by
 obtain ⟨F, h1, h2, h3, h4⟩ := h.tm
 have hlen : i < ts.length := (List.getElem?_eq_some_iff.1 hi).1
 refine (hk (F i) (h1 i _ hi).1 h.lt (h1 i _ hi).2).mono fun e w' ⟨he, hA, hc⟩ => ⟨he, ?_⟩
 have hz := hc.size
 refine ⟨Ch.trans h.ch hc (fun b hb hb' => ?_), lt_ch hc h.lt (fun b hb => by have := h3 i b hb; have := h.top; omega), h.top, fun j x e => (h.blk j x e).ch hc (h4 j i x e), h.lo, h.df, fun j b => if j = i then more (F i) w w' b else F j b, fun j x e => ?_, fun j k hjk b hb hb' => ?_, fun j b hb => ?_, fun j k x e hb => ?_⟩
 ·have := (h3 i b hb').1; omega
 ·by_cases hj : j = i
  ·subst hj
   rw [List.getElem?_set_self hlen] at e
   obtain rfl := (Option.some.inj e).symm
   simp only [if_true]
   exact ⟨hA, hf (h1 j _ hi).2⟩
  ·rw [List.getElem?_set_ne (fun h => hj h.symm)] at e
   simp only [if_neg hj]
   exact ⟨(h1 j x e).1.ch hc (fun b hb => h2 j i hj b hb), (h1 j x e).2⟩
 ·dsimp only at hb hb'
  split at hb
  ·rename_i hji
   subst hji
   rw [if_neg (fun h => hjk h.symm)] at hb'
   rcases hb with hb | hb
   ·exact h2 j k hjk b hb hb'
   ·have := (h3 k b hb').2; omega
  ·split at hb'
   ·rename_i hji hki
    subst hki
    rcases hb' with hb' | hb'
    ·exact h2 j k hjk b hb hb'
    ·have := (h3 j b hb).2; omega
   ·exact h2 j k hjk b hb hb'
 ·dsimp only at hb
  have hz0 := h.ch.size
  split at hb
  ·rcases hb with hb | hb
   ·have := h3 i b hb; omega
   ·omega
  ·have := h3 j b hb; omega
 ·dsimp only at hb
  split at hb
  ·rcases hb with hb | hb
   ·exact h4 j i x e hb
   ·have := (h.blk j x e).lt; omega
  ·exact h4 j k x e hb
theorem Sys.write (h : Sys w0 w bs ts) {i t : Nat} {T : TS} (hi : ts[i]? = some (t, T)) (s : ByteArray) (hs : s.size ≤ 1000000) : Calls Tryd.prog 12 [.pointer (some ⟨t, 0, none⟩), .string s].toArray w fun e w' => e = .returned (.tuple #[]) ∧ Sys w0 w' bs (ts.set i (t, writeT T s)) :=
 h.step hi (fun F hA hl hf => by obtain ⟨⟨W, H, hL⟩, hp⟩ := hf; exact write_at hA hl hL hp s hs) (fun hf => fine_write hf s)
theorem Sys.take (h : Sys w0 w bs ts) {i t : Nat} {T : TS} (hi : ts[i]? = some (t, T)) : Calls Tryd.prog 20 [.pointer (some ⟨t, 0, none⟩)].toArray w fun e w' => e = .returned (.string T.reply) ∧ Sys w0 w' bs (ts.set i (t, { T with reply := ByteArray.empty })) :=
 h.step hi (fun F hA _ _ => take_at hA) fine_take
theorem Sys.look (h : Sys w0 w bs ts) {k : FuncId} {args : Array Value} {v : Value} (hk : Calls Tryd.prog k args w fun e w' => e = .returned v ∧ Ch (fun _ => False) w w') : Calls Tryd.prog k args w fun e w' => e = .returned v ∧ Sys w0 w' bs ts :=
 hk.mono fun _ _ ⟨he, hc⟩ => ⟨he, h.same hc⟩
theorem Sys.at (h : Sys w0 w bs ts) {i t : Nat} {T : TS} (hi : ts[i]? = some (t, T)) : ∃ F, TermAt w t T F := by
 obtain ⟨F, h1, _⟩ := h.tm
 exact ⟨_, (h1 i _ hi).1⟩
theorem Sys.fine (h : Sys w0 w bs ts) {i t : Nat} {T : TS} (hi : ts[i]? = some (t, T)) : Fine T := by
 obtain ⟨F, h1, _⟩ := h.tm
 exact (h1 i _ hi).2
theorem Sys.cell (h : Sys w0 w bs ts) {i t : Nat} {T : TS} (hi : ts[i]? = some (t, T)) (c : Nat) {v : Value} (hv : ∀ g o bk ps, (T.vals g o bk ps)[c]? = some v) : w.cell? ⟨t, c, none⟩ = some v := by
 obtain ⟨F, g, o, ba, bn, bc, pa, pn, pc, F1, F2, FB, FP, hI⟩ := h.at hi
 exact (hI.blk.cell c).trans (hv _ _ _ _)
theorem Sys.grid (h : Sys w0 w bs ts) {i t : Nat} {T : TS} (hi : ts[i]? = some (t, T)) : ∃ g F, w.cell? ⟨t, 0, none⟩ = some (.pointer (some ⟨g, 0, none⟩)) ∧ GridAt w g T.grid F := by
 obtain ⟨F, g, o, ba, bn, bc, pa, pn, pc, F1, F2, FB, FP, hI⟩ := h.at hi
 exact ⟨g, F1, (hI.blk.cell 0).trans rfl, hI.g1⟩
theorem Sys.other (h : Sys w0 w bs ts) {i t : Nat} {T : TS} (hi : ts[i]? = some (t, T)) : ∃ g F, w.cell? ⟨t, 1, none⟩ = some (.pointer (some ⟨g, 0, none⟩)) ∧ GridAt w g T.other F := by
 obtain ⟨F, g, o, ba, bn, bc, pa, pn, pc, F1, F2, FB, FP, hI⟩ := h.at hi
 exact ⟨o, F2, (hI.blk.cell 1).trans rfl, hI.g2⟩
theorem Sys.outs (h : Sys w0 w bs ts) {i t : Nat} {T : TS} (hi : ts[i]? = some (t, T)) : ∃ ba bn bc rows FB, w.cell? ⟨t, 97, none⟩ = some (.slice ba bn bc) ∧ bn = T.back.length ∧ LinesAt w ba bn rows FB ∧ rows.map Row.l = T.back ∧ (ba = none ∨ ∃ b off, ba = some ⟨b, off, none⟩) := by
 obtain ⟨F, g, o, ba, bn, bc, pa, pn, pc, F1, F2, FB, FP, hI⟩ := h.at hi
 obtain ⟨rows, hL, hm⟩ := hI.bk
 exact ⟨ba, bn, bc, rows, FB, (hI.blk.cell 97).trans (by kernel_rfl), by rw [← hm, List.length_map, hL.len], hL, hm, hI.bz⟩
theorem Fine.back {T : TS} (h : Fine T) : T.back.length ≤ 1000 := by obtain ⟨⟨W, H, h⟩, _⟩ := h; exact Nat.le_trans h.bk (by decide)
theorem Fine.params {T : TS} (h : Fine T) : T.parser.params.length ≤ 1000 := Nat.le_trans h.2.n (by decide)
theorem Sys.alike (h : Sys w0 w bs ts) {i j t u : Nat} {T U : TS} (hi : ts[i]? = some (t, T)) (hj : ts[j]? = some (u, U)) : Calls Tryd.prog 16 [.pointer (some ⟨t, 0, none⟩), .pointer (some ⟨u, 0, none⟩)].toArray w fun e w' => e = .returned (.bool (alikeB T U)) ∧ Sys w0 w' bs ts := by
 obtain ⟨F, h1⟩ := h.at hi
 obtain ⟨F', h2⟩ := h.at hj
 exact h.look (alike_at h1 h2 (h.fine hi).back (h.fine hj).back (h.fine hi).params (h.fine hj).params)
end
end Go.Proofs.YteoejhjfbfacdaaDoor.X

namespace Go.Proofs.YteoejhjfbfacdaaDoor.X
open Go Go.RowKit Go.Proofs.YteoejhjfbfacdaaDoor
def PS.gr (p : PS) : Prop := p.state = 0 → p = { atP 0 with utf := p.utf }
theorem gr_at (k : Int) : (atP k).gr := fun h => by have h : k = 0 := h; subst h; rfl
theorem gr_no {p : PS} (h : p.state ≠ 0) : p.gr := fun e => absurd e h
theorem gr_feed1 {p : PS} (h : p.gr) (c : Int) : (feedP1 p c).1.gr := by
 unfold feedP1
 refine ite_fed (P := fun r => r.1.gr) (fun h0 => ?_) (fun h0 => ?_)
 ·have e := h h0
  unfold groundP
  refine ite_fed (P := fun r => r.1.gr) (fun _ => ?_) (fun _ => ?_)
  ·refine ite_fed (P := fun r => r.1.gr) (fun _ => gr_at 1) (fun _ => ?_)
   refine ite_fed (P := fun r => r.1.gr) (fun _ => ?_) (fun _ => ?_)
   ·intro _; rw [e]
   ·intro _; rw [e]
  ·intro _; rw [e]
 ·refine ite_fed (P := fun r => r.1.gr) (fun h5 => ?_) (fun h5 => ?_)
  ·unfold stringP
   refine ite_fed (P := fun r => r.1.gr) (fun _ => gr_no (show (7 : Int) ≠ 0 by decide)) (fun _ => ?_)
   refine ite_fed (P := fun r => r.1.gr) (fun _ => gr_at 0) (fun _ => ?_)
   refine ite_fed (P := fun r => r.1.gr) (fun _ => gr_at 0) (fun _ => ?_)
   exact ite_fed (P := fun r => r.1.gr) (fun _ => gr_no h0) (fun _ => gr_no h0)
  ·refine ite_fed (P := fun r => r.1.gr) (fun _ => gr_at 0) (fun _ => ?_)
   refine ite_fed (P := fun r => r.1.gr) (fun _ => gr_at 1) (fun _ => ?_)
   refine ite_fed (P := fun r => r.1.gr) (fun _ => gr_no h0) (fun _ => ?_)
   refine ite_fed (P := fun r => r.1.gr) (fun _ => gr_no h0) (fun _ => ?_)
   refine ite_fed (P := fun r => r.1.gr) (fun _ => ?_) (fun _ => ?_)
   ·unfold csiP
    refine ite_fed (P := fun r => r.1.gr) (fun _ => gr_no h0) (fun _ => ?_)
    refine ite_fed (P := fun r => r.1.gr) (fun _ => ?_) (fun _ => ?_)
    ·show PS.gr (if _ then _ else _)
     split <;> exact gr_no h0
    refine ite_fed (P := fun r => r.1.gr) (fun _ => ?_) (fun _ => ?_)
    ·exact ite_fed (P := fun r => r.1.gr) (fun _ => gr_at 0) (fun _ => gr_at 0)
    exact ite_fed (P := fun r => r.1.gr) (fun _ => gr_no (show (4 : Int) ≠ 0 by decide)) (fun _ => gr_no h0)
   ·unfold escapeP
    refine ite_fed (P := fun r => r.1.gr) (fun _ => ?_) (fun _ => ?_)
    ·show PS.gr (if _ then _ else _)
     split <;> exact gr_no (show (2 : Int) ≠ 0 by decide)
    refine ite_fed (P := fun r => r.1.gr) (fun _ => gr_at 3) (fun _ => ?_)
    refine ite_fed (P := fun r => r.1.gr) (fun _ => gr_at 5) (fun _ => ?_)
    exact ite_fed (P := fun r => r.1.gr) (fun _ => gr_at 6) (fun _ => gr_at 0)
theorem gr_feed {p : PS} (h : p.gr) (c : Int) : (feedP p c).1.gr :=
 ite_fed (P := fun r => r.1.gr) (fun _ => ite_fed (P := fun r => r.1.gr) (fun _ => gr_at 0) (fun _ => gr_feed1 (gr_at 1) c)) (fun _ => gr_feed1 h c)
theorem gr_writeN {T : TS} (h : T.parser.gr) (s : ByteArray) : ∀ k, (writeN T s k).parser.gr
 | 0 => h
 | k + 1 => by rw [writeN, feedT_p]; exact gr_feed (gr_writeN h s k) _
theorem gr_write {T : TS} (h : T.parser.gr) (s : ByteArray) : (writeT T s).parser.gr := gr_writeN h s _
theorem feed24 {p : PS} (h : p.gr) : (feedP p 24).1 = atP 0 := by
 unfold feedP
 refine ite_fed (P := fun r => r.1 = atP 0) (fun _ => rfl) (fun h7 => ?_)
 unfold feedP1
 refine ite_fed (P := fun r => r.1 = atP 0) (fun h0 => ?_) (fun h0 => ?_)
 ·rw [h h0]; rfl
 refine ite_fed (P := fun r => r.1 = atP 0) (fun _ => rfl) (fun _ => rfl)
theorem gr_zero (p1 p2 : Int) : (startT zeroT p1 p2).parser.gr := fun _ => rfl
theorem alikeB_parts {T U : TS} (h : T = U) : alikeB T U = true := by rw [h]; exact alikeB_refl U
end Go.Proofs.YteoejhjfbfacdaaDoor.X

namespace Go.Proofs.YteoejhjfbfacdaaDoor.X
open Go Go.RowKit Go.Proofs.YteoejhjfbfacdaaDoor
structure Kp (T U : TS) : Prop where
 alt : U.alt = true
 other : U.other = T.other
 away : U.away = T.away
 saved : U.saved = T.saved
 top : U.top = T.top
 bot : U.bot = T.bot
 title : U.title = T.title
 back : U.back = T.back
theorem Kp.refl {T : TS} (h : T.alt = true) : Kp T T := ⟨h, rfl, rfl, rfl, rfl, rfl, rfl, rfl⟩
theorem Kp.trans {T U V : TS} (h : Kp T U) (k : Kp U V) : Kp T V := ⟨k.alt, k.other.trans h.other, k.away.trans h.away, k.saved.trans h.saved, k.top.trans h.top, k.bot.trans h.bot, k.title.trans h.title, k.back.trans h.back⟩
theorem acP_kind (l : List Int) : ∀ a ∈ l.map acP, a.kind = 0 ∨ a.kind = 1 := fun a ha => by
 obtain ⟨r, _, rfl⟩ := List.mem_map.1 ha
 exact .inl rfl
theorem ground_kind {p : PS} {c : Int} (hc : c ≠ 27) (h0 : p.state = 0) : (groundP p c).1.state = 0 ∧ ∀ a ∈ (groundP p c).2, a.kind = 0 ∨ a.kind = 1 := by
 unfold groundP
 refine ite_fed (P := fun r => r.1.state = 0 ∧ ∀ a ∈ r.2, a.kind = 0 ∨ a.kind = 1) (fun _ => ?_) (fun _ => ⟨h0, acP_kind _⟩)
 refine ite_fed (P := fun r => r.1.state = 0 ∧ ∀ a ∈ r.2, a.kind = 0 ∨ a.kind = 1) (fun e => absurd e hc) (fun _ => ?_)
 refine ite_fed (P := fun r => r.1.state = 0 ∧ ∀ a ∈ r.2, a.kind = 0 ∨ a.kind = 1) (fun _ => ⟨h0, fun a ha => ?_⟩) (fun _ => ⟨h0, fun a ha => ?_⟩)
 ·rcases List.mem_append.1 ha with ha | ha
  ·exact acP_kind _ a ha
  ·obtain rfl := List.mem_singleton.1 ha; exact .inr rfl
 ·rcases List.mem_append.1 ha with ha | ha
  ·exact acP_kind _ a ha
  ·exact acP_kind _ a ha
end Go.Proofs.YteoejhjfbfacdaaDoor.X
namespace Go.Proofs.YteoejhjfbfacdaaDoor.X
open Go Go.RowKit Go.Proofs.YteoejhjfbfacdaaDoor
section
variable {w w' : World} {t g o : Nat} {ba : Option Addr} {bn bc : Nat} {pa : Option Addr} {pn pc : Nat} {T : TS} {F F1 F2 FB FP : Nat → Prop}
theorem TermIn.grid2 (h : TermIn w t g o ba bn bc pa pn pc T F F1 F2 FB FP) (hc : Ch F2 w w') {G' : Gr} {F2' : Nat → Prop} (hG : GridAt w' o G' F2') (hF : ∀ b, F2' b → more F2 w w' b) :
  TermIn w' t g o ba bn bc pa pn pc ({ T with other := G' } : TS) (more F w w') F1 F2' FB FP := by
 have hlt1 : ∀ b, F1 b → b < w.heap.size := h.g1.lt
 have hltF : ∀ b, F b → b < w.heap.size := h.lt
 have htl := h.blk.lt
 obtain ⟨rows, hL, hl⟩ := h.bk
 have ap : ∀ (X : Nat → Prop), (∀ b, X b → F b) → (∀ b, F2 b → ¬ X b) → ∀ b, F2' b → ¬ X b := fun X hX ha b hb hx => by
  rcases hF b hb with h1 | h1
  ·exact ha b h1 hx
  ·have := hltF b (hX b hx); omega
 exact
 {blk := h.blk.ch hc h.t2
  g1 := h.g1.ch hc fun b h1 h2 => h.a12 b h1 h2
  g2 := hG
  bk := ⟨rows, hL.ch hc fun b hb h1 => h.a2B b h1 hb, hl⟩
  bcap := h.bcap
  ps := ⟨h.ps.1.ch hc fun ad e h1 => h.a2P _ h1 (h.ps.2.2.2 ad e), h.ps.2⟩
  pz := h.pz
  bz := h.bz
  t1 := h.t1
  t2 := fun hb => by
   rcases hF t hb with h1 | h1
   ·exact h.t2 h1
   ·omega
  tB := h.tB, tP := h.tP
  a12 := fun b h1 h2 => ap F1 h.inF.2.1 (fun b h2 h1 => h.a12 b h1 h2) b h2 h1
  a1B := h.a1B
  a2B := ap FB h.inF.2.2.2.1 h.a2B
  a1P := h.a1P
  a2P := ap FP h.inF.2.2.2.2 h.a2P
  inF := ⟨.inl h.inF.1, fun b hb => .inl (h.inF.2.1 b hb), fun b hb => (hF b hb).elim (fun h1 => .inl (h.inF.2.2.1 b h1)) .inr, fun b hb => .inl (h.inF.2.2.2.1 b hb), fun b hb => .inl (h.inF.2.2.2.2 b hb)⟩
  lt := fun b hb => hb.elim (fun hb => Nat.lt_of_lt_of_le (hltF b hb) hc.size) fun hb => hb.2
  hi := fun b hb => hb.elim (h.hi b) fun hb => by have := h.hi t h.inF.1; omega }
theorem TermIn.chF2 (h : TermIn w t g o ba bn bc pa pn pc T F F1 F2 FB FP) (hc : Ch F2 w w') : Ch F w w' := hc.mono fun b _ hb => h.inF.2.2.1 b hb
end
def hgtI (p : Int) : Int := min (max p 1) 60
def upI (T : TS) (p2 : Int) : Int := max (T.cursor.y - hgtI p2 + 1) 0
def fixC (c : Cur) (w h : Int) : Cur := ⟨min c.x (w - 1), min c.y (h - 1), c.late && ((c.x : Int) == w - 1), c.sty⟩
def rs1 (T : TS) (p1 p2 : Int) : TS :=
 if T.alt = true then { T with grid := resizeG T.grid p1 (hgtI p2) (upI T p2) }
 else { T with grid := resizeG T.grid p1 (hgtI p2) (upI T p2), back := keepB T.back (T.grid.lines.take (topI T.grid (upI T p2)).toNat) }
def rs2 (T : TS) (p1 p2 : Int) : TS := { rs1 T p1 p2 with other := resizeG (rs1 T p1 p2).other p1 (hgtI p2) 0 }
def resizeT (T : TS) (p1 p2 : Int) : TS :=
 {rs2 T p1 p2 with
  top := 0, bot := (rs2 T p1 p2).grid.h
  cursor := fixC ⟨(rs2 T p1 p2).cursor.x, (rs2 T p1 p2).cursor.y - upI T p2, (rs2 T p1 p2).cursor.late, (rs2 T p1 p2).cursor.sty⟩ (rs2 T p1 p2).grid.w (rs2 T p1 p2).grid.h
  saved := fixC (rs2 T p1 p2).saved (rs2 T p1 p2).grid.w (rs2 T p1 p2).grid.h
  away := fixC (rs2 T p1 p2).away (rs2 T p1 p2).grid.w (rs2 T p1 p2).grid.h }
theorem rs1_f (T : TS) (p1 p2 : Int) : (rs1 T p1 p2).cursor = T.cursor ∧ (rs1 T p1 p2).saved = T.saved ∧ (rs1 T p1 p2).away = T.away ∧ (rs1 T p1 p2).other = T.other ∧ (rs1 T p1 p2).reply = T.reply ∧ (rs1 T p1 p2).parser = T.parser ∧ (rs1 T p1 p2).alt = T.alt ∧
  (rs1 T p1 p2).grid.w = sideI p1 ∧ (rs1 T p1 p2).grid.h = sideI (hgtI p2) := by
 unfold rs1
 split <;> exact ⟨rfl, rfl, rfl, rfl, rfl, rfl, rfl, rfl, rfl⟩
theorem hgtI_bd (p : Int) : 1 ≤ hgtI p ∧ hgtI p ≤ 60 ∧ sideI (hgtI p) = hgtI p ∧ sideI p = hgtI p := by unfold hgtI sideI; omega
theorem rs2_f (T : TS) (p1 p2 : Int) : (rs2 T p1 p2).cursor = T.cursor ∧ (rs2 T p1 p2).saved = T.saved ∧ (rs2 T p1 p2).away = T.away ∧ (rs2 T p1 p2).grid.w = sideI p1 ∧ (rs2 T p1 p2).grid.h = hgtI p2 ∧ (rs2 T p1 p2).reply = T.reply ∧ (rs2 T p1 p2).parser = T.parser := by
 obtain ⟨h1, h2, h3, h4, h5, h6, h7, h8, h9⟩ := rs1_f T p1 p2
 have hb := hgtI_bd p2
 exact ⟨h1, h2, h3, h8, by show (rs1 T p1 p2).grid.h = _; omega, h5, h6⟩
theorem rs1_back {W H : Int} {T : TS} (h : Lim W H T) (p1 p2 : Int) : (rs1 T p1 p2).back.length ≤ 20 := by
 unfold rs1
 split
 ·exact h.bk
 ·exact keepB_len _ _
theorem lim_resize {W H : Int} {T : TS} (h : Lim W H T) (p1 p2 : Int) : Lim (sideI p1) (sideI p2) (resizeT T p1 p2) := by
 obtain ⟨e1, e2, e3, e4, e5, e6, e7⟩ := rs2_f T p1 p2
 have hb := hgtI_bd p2
 have hs1 : 1 ≤ sideI p1 ∧ sideI p1 ≤ 60 := by unfold sideI; omega
 obtain ⟨⟨c1, c2⟩, c3, c4⟩ := h.cu
 obtain ⟨⟨s1, s2⟩, s3, s4⟩ := h.sa
 obtain ⟨⟨a1, a2⟩, a3, a4⟩ := h.aw
 refine ⟨hs1, by omega, ⟨e4, by show (rs2 T p1 p2).grid.h = _; omega⟩, ⟨rfl, by show sideI (hgtI p2) = _; omega⟩, ?_, ?_, ?_, ?_, rs1_back h p1 p2, by show (rs2 T p1 p2).reply.size ≤ 400; rw [e6]; exact h.rp⟩
 ·show (0 ≤ min (rs2 T p1 p2).cursor.x ((rs2 T p1 p2).grid.w - 1) ∧ min (rs2 T p1 p2).cursor.x ((rs2 T p1 p2).grid.w - 1) < _) ∧ 0 ≤ min ((rs2 T p1 p2).cursor.y - upI T p2) ((rs2 T p1 p2).grid.h - 1) ∧ min ((rs2 T p1 p2).cursor.y - upI T p2) ((rs2 T p1 p2).grid.h - 1) < _
  rw [e1, e4, e5]; unfold upI; omega
 ·show (0 ≤ min (rs2 T p1 p2).saved.x ((rs2 T p1 p2).grid.w - 1) ∧ min (rs2 T p1 p2).saved.x ((rs2 T p1 p2).grid.w - 1) < _) ∧ 0 ≤ min (rs2 T p1 p2).saved.y ((rs2 T p1 p2).grid.h - 1) ∧ min (rs2 T p1 p2).saved.y ((rs2 T p1 p2).grid.h - 1) < _
  rw [e2, e4, e5]; omega
 ·show (0 ≤ min (rs2 T p1 p2).away.x ((rs2 T p1 p2).grid.w - 1) ∧ min (rs2 T p1 p2).away.x ((rs2 T p1 p2).grid.w - 1) < _) ∧ 0 ≤ min (rs2 T p1 p2).away.y ((rs2 T p1 p2).grid.h - 1) ∧ min (rs2 T p1 p2).away.y ((rs2 T p1 p2).grid.h - 1) < _
  rw [e3, e4, e5]; omega
 ·show 0 ≤ (0 : Int) ∧ (0 : Int) < (rs2 T p1 p2).grid.h ∧ (rs2 T p1 p2).grid.h ≤ _
  rw [e5]; omega
theorem resize_parser (T : TS) (p1 p2 : Int) : (resizeT T p1 p2).parser = T.parser := (rs2_f T p1 p2).2.2.2.2.2.2
end Go.Proofs.YteoejhjfbfacdaaDoor.X
namespace Go.Proofs.YteoejhjfbfacdaaDoor.X
open Go Go.RowKit Go.Proofs.YteoejhjfbfacdaaDoor
set_option maxHeartbeats 4000000 in
theorem resize_at {w : World} {t : Nat} {W H : Int} {T : TS} {F : Nat → Prop} (hA0 : TermAt w t T F) (hT : LT w) (hL : Lim W H T) (p1 p2 : Int) : Calls Tryd.prog 35 [.pointer (some ⟨t, 0, none⟩), .int .i64 p1, .int .i64 p2].toArray w fun e w' => e = .returned (.tuple #[]) ∧ TermAt w' t (resizeT T p1 p2) (more F w w') ∧ Ch F w w' := by
 obtain ⟨g, o, ba, bn, bc, pa, pn, pc, F1, F2, FB, FP, hI⟩ := hA0
 have hA0 : TermAt w t T F := ⟨g, o, ba, bn, bc, pa, pn, pc, F1, F2, FB, FP, hI⟩
 have hFt := hI.inF.1
 obtain ⟨gv, hgd⟩ := hI.g1.head
 have htg : Df t g := fun e => hI.t1 (e ▸ hI.g1.inF)
 obtain ⟨⟨hw1, hw2⟩, ⟨hh1, hh2⟩, hll, hall⟩ := hI.g1.ok
 have hL0 := hL
 obtain ⟨⟨hwa, hwb⟩, ⟨hha, hhb⟩, ⟨hgw, hgh⟩, ⟨how, hoh⟩, ⟨⟨hcx, hcX⟩, hcy, hcY⟩, ⟨⟨hsx, hsX⟩, hsy, hsY⟩, ⟨⟨hax, haX⟩, hay, haY⟩, ⟨htp, htb, hbh⟩, hbk, hrp⟩ := hL0
 refine yA Tryd.func35 rfl <| ysr <| yp 4 [] .z <| ye <| ysr <| yp 10 [] (.l (hI.blk.c 3) (.q6 (T.cursor.y - (min ((max (p2 : Int) 1) : Int) 60)) (.q6 ((T.cursor.y - (min ((max (p2 : Int) 1) : Int) 60)) + 1) .z))) <| ye <| ysr <| yp 7 [] (.l (hI.blk.c 0) .z) <| yo (yC (resize_any g T.grid F1 p1 (hgtI p2) (upI T p2) _ hT.tb hI.g1) ?_)
 rintro _ w10 ⟨ro, n1, rows1, F1', K1, rfl, hLn, hol, hG, hF, hK, hap, hc⟩
 refine ⟨_, rfl, ?_⟩
 have hI1 := hI.grid1 hc hG hF
 have hc1 := hI.chF hc
 have hT1 := lt_ch hc1 hT (fun b hb => hI.hi b hb)
 have hKm : ∀ b, K1 b → more F w w10 b ∧ ¬ F1' b ∧ ¬ F2 b ∧ b ≠ t := fun b hb => by
  have h2 := hK b hb
  refine ⟨h2.elim (fun h => .inl (hI.inF.2.1 b h)) .inr, fun h => hap b h hb, fun h => ?_, fun h => ?_⟩
  ·rcases h2 with h2 | h2
   ·exact hI.a12 b h2 h
   have := hI.g2.lt b h; omega
  rcases h2 with h2 | h2
  ·exact hI.t1 (h ▸ h2)
  have := hI.blk.lt; omega
 have hln : n1 ≤ 1000 := by
  have h1 := hLn.len
  have h2 := congrArg List.length hol
  rw [List.length_map, List.length_take] at h2
  omega
 refine yp 9 [] .z <| ye <| x_seq_cut ([(0, pX t), (1, iX p1), (2, iX (hgtI p2)), (6, iX (upI T p2))]) (fun u => TermAt u t (rs1 T p1 p2) (more F w u) ∧ Ch F w u ∧ LT u) (fun K11 hK12 => ?_) (fun u13 hcut14 => ?_)
 ·refine ysr <| yp 5 [] (.l (hI1.blk.c 95) .z) <| ye <| yc (rN (rY T.alt)) (fun hC15 => ?_) fun hC15 => ?_
  ·have hal := hC15
   refine x_region <| yp 2 [] .z <| yo (yC (keep_any (lc := n1) hI1 hLn (fun e => by cases e) hKm (by have := hI.bk; obtain ⟨rr, h1, h2⟩ := this; have h3 := h1.len; have h4 : rr.length = T.back.length := (by have h5 := congrArg List.length h2; rw [List.length_map] at h5; exact h5); omega) hln) ?_)
   rintro _ w16 ⟨ba2, bn2, bc2, rfl, hI2, hc2⟩
   refine ⟨_, rfl, ?_⟩
   refine yE (fun a ha => hK12 _ ⟨TermAt.eq' (show TermAt w16 t _ (more F w w16) from ⟨_, _, _, _, _, _, _, _, _, _, _, _, hI2.mono (more_trans hc1.size hc2.size) (hI.moreOk (Nat.le_trans hc1.size hc2.size))⟩) (by unfold rs1; rw [if_neg (by rw [hal]; decide), ← hol]), Ch.more hc1 (hI1.cht hc2), lt_ch (Ch.more hc1 (hI1.cht hc2)) hT (fun b hb => hI.hi b hb)⟩ a (ha.kp [0, 1, 2, 6]))
  have hal := hC15
  refine x_skip (fun a ha => hK12 _ ⟨TermAt.eq' (show TermAt w10 t _ (more F w w10) from ⟨_, _, _, _, _, _, _, _, _, _, _, _, hI1⟩) (by unfold rs1; rw [if_pos hal]), hc1, hT1⟩ a (ha.kp [0, 1, 2, 6]))
 obtain ⟨⟨g5, o5, ba5, bn5, bc5, pa5, pn5, pc5, F15, F25, FB5, FP5, hI5⟩, hX5, hT5⟩ := hcut14
 refine ysr <| yp 6 [] (.l (hI5.blk.c 1) .z) <| yo (yC (resize_any o5 (rs1 T p1 p2).other F25 p1 (hgtI p2) 0 _ hT5.tb hI5.g2) ?_)
 rintro _ w17 ⟨ro6, n6, rows6, F26, K6, rfl, hLn6, hol6, hG6, hF6, hK6, hap6, hc6⟩
 refine ⟨_, rfl, ?_⟩
 have hI6 : TermIn w17 t g5 o5 ba5 bn5 bc5 pa5 pn5 pc5 (rs2 T p1 p2) (more (more F w u13) u13 w17) F15 F26 FB5 FP5 := hI5.grid2 hc6 hG6 hF6
 have hc6F := hI5.chF2 hc6
 have hX6 := Ch.more hX5 hc6F
 obtain ⟨d1, d2, d3, d4, d5, d6, d7⟩ := rs2_f T p1 p2
 have dcx : (rs2 T p1 p2).cursor.x = T.cursor.x := by rw [d1]
 have dcy : (rs2 T p1 p2).cursor.y = T.cursor.y := by rw [d1]
 have dsx : (rs2 T p1 p2).saved.x = T.saved.x := by rw [d2]
 have dsy : (rs2 T p1 p2).saved.y = T.saved.y := by rw [d2]
 have dax : (rs2 T p1 p2).away.x = T.away.x := by rw [d3]
 have day : (rs2 T p1 p2).away.y = T.away.y := by rw [d3]
 have hb2 := hgtI_bd p2
 have hs1 : 1 ≤ sideI p1 ∧ sideI p1 ≤ 60 := by unfold sideI; omega
 have hup : 0 ≤ upI T p2 ∧ upI T p2 ≤ 60 := by unfold upI; omega
 obtain ⟨gv6, hgd6⟩ := hI6.g1.head
 have htg6 : Df t g5 := fun e => hI6.t1 (e ▸ hI6.g1.inF)
 refine ye <| ysr <| yp 11 [] (.l (hI6.blk.c 0) (.l (hgd6.c 1) .z)) <| yo (yS hI6.blk fun w18 hB19 hc20 => ?_)
 replace hB19 : Blk w18 t (TS.vals ({ (rs2 T p1 p2) with top := 0 } : TS) g5 o5 (.slice ba5 bn5 bc5) (.slice pa5 pn5 pc5)) tTerm := Blk.to hB19 (by kernel_rfl)
 have hS22 := Ch.trans (Ch.refl (fun j => j = t) w17) hc20 (fun i hi (h : i = t) => h)
 have hg23 := hgd6.ch hc20 (fun h => htg6 h.symm)
 refine yp 14 [] .z <| yo (yS hB19 fun w24 hB25 hc26 => ?_)
 replace hB25 : Blk w24 t (TS.vals ({ (rs2 T p1 p2) with top := 0, bot := (rs2 T p1 p2).grid.h } : TS) g5 o5 (.slice ba5 bn5 bc5) (.slice pa5 pn5 pc5)) tTerm := Blk.to hB25 (by kernel_rfl)
 have hS28 := Ch.trans hS22 hc26 (fun i hi (h : i = t) => h)
 have hg29 := hg23.ch hc26 (fun h => htg6 h.symm)
 refine ye <| ysr <| yp 10 [] (.l (hB25.c 3) (.q6 ((rs2 T p1 p2).cursor.y - (upI T p2)) .z)) <| yo (yS hB25 fun w30 hB31 hc32 => ?_)
 replace hB31 : Blk w30 t (TS.vals ({ (rs2 T p1 p2) with cursor := (Cur.mk (rs2 T p1 p2).cursor.x ((rs2 T p1 p2).cursor.y - (upI T p2)) (rs2 T p1 p2).cursor.late (rs2 T p1 p2).cursor.sty), top := 0, bot := (rs2 T p1 p2).grid.h } : TS) g5 o5 (.slice ba5 bn5 bc5) (.slice pa5 pn5 pc5)) tTerm := Blk.to hB31 (by kernel_rfl)
 have hS34 := Ch.trans hS28 hc32 (fun i hi (h : i = t) => h)
 have hg35 := hg29.ch hc32 (fun h => htg6 h.symm)
 refine ye <| ys <| yD [9] fun w36 hH37 hc38 => ?_
 have hS39 := Ch.trans hS34 hc38 eZ
 have hg40 := hg35.ch hc38 id
 have ht41 := hB31.ch hc38 id
 refine yd [0, 1, 2, 3, 4, 5, 6, 7, 8, 11] [] .z <| yK 9 (yB [.pointer (some ⟨t, 2, none⟩), .pointer (some ⟨t, 10, none⟩), .pointer (some ⟨t, 18, none⟩)] 92 3 fun w42 b43 hb44 hz45 hB46 hc47 => ?_)
 have hlo48 : w17.heap.size ≤ b43 := by rw [hb44]; exact Ch.size hS39
 have hS49 := Ch.trans hS39 hc47 eZ
 have hg50 := hg40.ch hc47 id
 have ht51 := ht41.ch hc47 id
 refine x_killed <| yd [10] [] .z <| yDe (nS ?_)
 refine x_block <| yU 4 (yU1 ?_)
 refine ysr <| yp 1 [] .z <| ye <| ys <| yct <| yk <| ys <| x_block <| ysr <| yp 3 [] (.i 0 (3) (.l (hB46.c 0) .z)) <| ye <| x_seq_cut ([(0, pX t), (9, .pointer (some ⟨t, 2, none⟩)), (77, .slice (some ⟨b43, 0, none⟩) 3 3), (78, iX 3), (79, iX 0)]) (fun u => Blk u t (TS.vals ({ (rs2 T p1 p2) with cursor := (Cur.mk (rs2 T p1 p2).cursor.x ((rs2 T p1 p2).cursor.y - (upI T p2)) ((rs2 T p1 p2).cursor.late && (((rs2 T p1 p2).cursor.x : Int) == (rs2 T p1 p2).grid.w - 1)) (rs2 T p1 p2).cursor.sty), top := 0, bot := (rs2 T p1 p2).grid.h } : TS) g5 o5 (.slice ba5 bn5 bc5) (.slice pa5 pn5 pc5)) tTerm ∧ Ch (fun j => j = t) w17 u ∧ Blk u b43 [.pointer (some ⟨t, 2, none⟩), .pointer (some ⟨t, 10, none⟩), .pointer (some ⟨t, 18, none⟩)] 92) (fun K52 hK53 => ?_) (fun u54 hcut55 => ?_)
 ·refine yD [22] fun w56 hH57 hc58 => ?_
  have hS59 := Ch.trans hS49 hc58 eZ
  have hg60 := hg50.ch hc58 id
  have ht61 := ht51.ch hc58 id
  have hB62 := hB46.ch hc58 id
  refine yd (uL 0 6) [] (.l (ht61.c 4) .z) <| yv [88] (rY (rs2 T p1 p2).cursor.late) (fun hC63 => ?_) fun hC63 => ?_
  ·refine yd (uL 6 16) [] (.l (ht61.c 2) (.l (ht61.c 0) (.l (hg60.c 0) (.q6 ((rs2 T p1 p2).grid.w - 1) .z)))) <| yK 22 (yS ht61 fun w64 hB65 hc66 => ?_)
   replace hB65 : Blk w64 t (TS.vals ({ (rs2 T p1 p2) with cursor := (Cur.mk (rs2 T p1 p2).cursor.x ((rs2 T p1 p2).cursor.y - (upI T p2)) (((rs2 T p1 p2).cursor.x : Int) == ((rs2 T p1 p2).grid.w - 1)) (rs2 T p1 p2).cursor.sty), top := 0, bot := (rs2 T p1 p2).grid.h } : TS) g5 o5 (.slice ba5 bn5 bc5) (.slice pa5 pn5 pc5)) tTerm := Blk.to hB65 (by kernel_rfl)
   have hS68 := Ch.trans hS59 hc66 (fun i hi (h : i = t) => h)
   have hB70 := hB62.ch hc66 (fun (h : b43 = t) => by have := ht41.lt; omega)
   refine x_killed <| yDe (fun a ha => hK53 _ ⟨Blk.to hB65 (by simp only [hC63, Bool.true_and, Bool.false_and]), hS68, hB70⟩ a (ha.kp [0, 9, 77, 78, 79]))
  refine yd (uL 6 16) [] .z <| yK 22 (yS ht61 fun w71 hB72 hc73 => ?_)
  replace hB72 : Blk w71 t (TS.vals ({ (rs2 T p1 p2) with cursor := (Cur.mk (rs2 T p1 p2).cursor.x ((rs2 T p1 p2).cursor.y - (upI T p2)) false (rs2 T p1 p2).cursor.sty), top := 0, bot := (rs2 T p1 p2).grid.h } : TS) g5 o5 (.slice ba5 bn5 bc5) (.slice pa5 pn5 pc5)) tTerm := Blk.to hB72 (by kernel_rfl)
  have hS75 := Ch.trans hS59 hc73 (fun i hi (h : i = t) => h)
  have hB77 := hB62.ch hc73 (fun (h : b43 = t) => by have := ht41.lt; omega)
  refine x_killed <| yDe (fun a ha => hK53 _ ⟨Blk.to hB72 (by simp only [hC63, Bool.true_and, Bool.false_and]), hS75, hB77⟩ a (ha.kp [0, 9, 77, 78, 79]))
 obtain ⟨hB78, hS79, hB80⟩ := hcut55
 have hgd81 := hgd6.ch hS79 (fun h => htg6 h.symm)
 refine yD [30, 33] fun w82 hH83 hc84 => ?_
 have hS85 := Ch.trans hS79 hc84 eZ
 have hg86 := hgd81.ch hc84 id
 have ht87 := hB78.ch hc84 id
 have hB88 := hB80.ch hc84 id
 refine yd (uL 0 26) [] (.l (ht87.c 2) (.l (ht87.c 0) (.l (hg86.c 0) (.q6 ((rs2 T p1 p2).grid.w - 1) (.l (ht87.c 3) (.l (ht87.c 0) (.l (hg86.c 1) .z))))))) <| ydT (uL 26 4) [] rfl (fun _ => (.q6 ((rs2 T p1 p2).grid.h - 1) .z)) <| yK 30 (yS ht87 fun w89 hB90 hc91 => ?_)
 replace hB90 : Blk w89 t (TS.vals ({ (rs2 T p1 p2) with cursor := (Cur.mk (min ((rs2 T p1 p2).cursor.x : Int) ((rs2 T p1 p2).grid.w - 1)) ((rs2 T p1 p2).cursor.y - (upI T p2)) ((rs2 T p1 p2).cursor.late && (((rs2 T p1 p2).cursor.x : Int) == (rs2 T p1 p2).grid.w - 1)) (rs2 T p1 p2).cursor.sty), top := 0, bot := (rs2 T p1 p2).grid.h } : TS) g5 o5 (.slice ba5 bn5 bc5) (.slice pa5 pn5 pc5)) tTerm := Blk.to hB90 (by kernel_rfl)
 have hS93 := Ch.trans hS85 hc91 (fun i hi (h : i = t) => h)
 have hg94 := hg86.ch hc91 (fun h => htg6 h.symm)
 have hB95 := hB88.ch hc91 (fun (h : b43 = t) => by have := ht41.lt; omega)
 refine x_killed <| yd [31, 32] [] .z <| yK 33 (yS hB90 fun w96 hB97 hc98 => ?_)
 replace hB97 : Blk w96 t (TS.vals ({ (rs2 T p1 p2) with cursor := (Cur.mk (min ((rs2 T p1 p2).cursor.x : Int) ((rs2 T p1 p2).grid.w - 1)) (min (((rs2 T p1 p2).cursor.y - (upI T p2)) : Int) ((rs2 T p1 p2).grid.h - 1)) ((rs2 T p1 p2).cursor.late && (((rs2 T p1 p2).cursor.x : Int) == (rs2 T p1 p2).grid.w - 1)) (rs2 T p1 p2).cursor.sty), top := 0, bot := (rs2 T p1 p2).grid.h } : TS) g5 o5 (.slice ba5 bn5 bc5) (.slice pa5 pn5 pc5)) tTerm := Blk.to hB97 (by kernel_rfl)
 have hS100 := Ch.trans hS93 hc98 (fun i hi (h : i = t) => h)
 have hg101 := hg94.ch hc98 (fun h => htg6 h.symm)
 have hB102 := hB95.ch hc98 (fun (h : b43 = t) => by have := ht41.lt; omega)
 refine x_killed <| yDe (nB (nS ?_))
 refine x_region <| yp 2 [] (.q6 1 .z) <| yE (nU (yU1 ?_))
 refine ysr <| yp 1 [] .z <| ye <| ys <| yct <| yk <| ys <| x_block <| ysr <| yp 3 [] (.i 1 (3) (.l (hB102.c 1) .z)) <| ye <| x_seq_cut ([(0, pX t), (9, .pointer (some ⟨t, 10, none⟩)), (77, .slice (some ⟨b43, 0, none⟩) 3 3), (78, iX 3), (79, iX 1)]) (fun u => Blk u t (TS.vals ({ (rs2 T p1 p2) with cursor := (Cur.mk (min ((rs2 T p1 p2).cursor.x : Int) ((rs2 T p1 p2).grid.w - 1)) (min (((rs2 T p1 p2).cursor.y - (upI T p2)) : Int) ((rs2 T p1 p2).grid.h - 1)) ((rs2 T p1 p2).cursor.late && (((rs2 T p1 p2).cursor.x : Int) == (rs2 T p1 p2).grid.w - 1)) (rs2 T p1 p2).cursor.sty), saved := (Cur.mk (rs2 T p1 p2).saved.x (rs2 T p1 p2).saved.y ((rs2 T p1 p2).saved.late && (((rs2 T p1 p2).saved.x : Int) == (rs2 T p1 p2).grid.w - 1)) (rs2 T p1 p2).saved.sty), top := 0, bot := (rs2 T p1 p2).grid.h } : TS) g5 o5 (.slice ba5 bn5 bc5) (.slice pa5 pn5 pc5)) tTerm ∧ Ch (fun j => j = t) w17 u ∧ Blk u b43 [.pointer (some ⟨t, 2, none⟩), .pointer (some ⟨t, 10, none⟩), .pointer (some ⟨t, 18, none⟩)] 92) (fun K103 hK104 => ?_) (fun u105 hcut106 => ?_)
 ·refine yD [22] fun w107 hH108 hc109 => ?_
  have hS110 := Ch.trans hS100 hc109 eZ
  have hg111 := hg101.ch hc109 id
  have hB112 := hB102.ch hc109 id
  have ht113 := hB97.ch hc109 id
  refine yd (uL 0 6) [] (.l (ht113.c 12) .z) <| yv [88] (rY (rs2 T p1 p2).saved.late) (fun hC114 => ?_) fun hC114 => ?_
  ·refine yd (uL 6 16) [] (.l (ht113.c 10) (.l (ht113.c 0) (.l (hg111.c 0) (.q6 ((rs2 T p1 p2).grid.w - 1) .z)))) <| dkeep [0, 9, 77, 78, 79, 102, 104] (f' := [(0, pX t), (9, .pointer (some ⟨t, 10, none⟩)), (77, .slice (some ⟨b43, 0, none⟩) 3 3), (78, iX 3), (79, iX 1), (102, .bool (((rs2 T p1 p2).saved.x : Int) == ((rs2 T p1 p2).grid.w - 1))), (104, .pointer (some ⟨t, 12, none⟩))]) <| yK 22 (yS ht113 fun w115 hB116 hc117 => ?_)
   replace hB116 : Blk w115 t (TS.vals ({ (rs2 T p1 p2) with cursor := (Cur.mk (min ((rs2 T p1 p2).cursor.x : Int) ((rs2 T p1 p2).grid.w - 1)) (min (((rs2 T p1 p2).cursor.y - (upI T p2)) : Int) ((rs2 T p1 p2).grid.h - 1)) ((rs2 T p1 p2).cursor.late && (((rs2 T p1 p2).cursor.x : Int) == (rs2 T p1 p2).grid.w - 1)) (rs2 T p1 p2).cursor.sty), saved := (Cur.mk (rs2 T p1 p2).saved.x (rs2 T p1 p2).saved.y (((rs2 T p1 p2).saved.x : Int) == ((rs2 T p1 p2).grid.w - 1)) (rs2 T p1 p2).saved.sty), top := 0, bot := (rs2 T p1 p2).grid.h } : TS) g5 o5 (.slice ba5 bn5 bc5) (.slice pa5 pn5 pc5)) tTerm := Blk.to hB116 (by kernel_rfl)
   have hS119 := Ch.trans hS110 hc117 (fun i hi (h : i = t) => h)
   have hB121 := hB112.ch hc117 (fun (h : b43 = t) => by have := ht41.lt; omega)
   refine x_killed <| yDe (fun a ha => hK104 _ ⟨Blk.to hB116 (by simp only [hC114, Bool.true_and, Bool.false_and]), hS119, hB121⟩ a (ha.kp [0, 9, 77, 78, 79]))
  refine yd (uL 6 16) [] .z <| dkeep [0, 9, 77, 78, 79, 102, 104] (f' := [(0, pX t), (9, .pointer (some ⟨t, 10, none⟩)), (77, .slice (some ⟨b43, 0, none⟩) 3 3), (78, iX 3), (79, iX 1), (102, .bool false), (104, .pointer (some ⟨t, 12, none⟩))]) <| yK 22 (yS ht113 fun w122 hB123 hc124 => ?_)
  replace hB123 : Blk w122 t (TS.vals ({ (rs2 T p1 p2) with cursor := (Cur.mk (min ((rs2 T p1 p2).cursor.x : Int) ((rs2 T p1 p2).grid.w - 1)) (min (((rs2 T p1 p2).cursor.y - (upI T p2)) : Int) ((rs2 T p1 p2).grid.h - 1)) ((rs2 T p1 p2).cursor.late && (((rs2 T p1 p2).cursor.x : Int) == (rs2 T p1 p2).grid.w - 1)) (rs2 T p1 p2).cursor.sty), saved := (Cur.mk (rs2 T p1 p2).saved.x (rs2 T p1 p2).saved.y false (rs2 T p1 p2).saved.sty), top := 0, bot := (rs2 T p1 p2).grid.h } : TS) g5 o5 (.slice ba5 bn5 bc5) (.slice pa5 pn5 pc5)) tTerm := Blk.to hB123 (by kernel_rfl)
  have hS126 := Ch.trans hS110 hc124 (fun i hi (h : i = t) => h)
  have hB128 := hB112.ch hc124 (fun (h : b43 = t) => by have := ht41.lt; omega)
  refine x_killed <| yDe (fun a ha => hK104 _ ⟨Blk.to hB123 (by simp only [hC114, Bool.true_and, Bool.false_and]), hS126, hB128⟩ a (ha.kp [0, 9, 77, 78, 79]))
 obtain ⟨hB129, hS130, hB131⟩ := hcut106
 have hgd132 := hgd6.ch hS130 (fun h => htg6 h.symm)
 refine yD [30, 33] fun w133 hH134 hc135 => ?_
 have hS136 := Ch.trans hS130 hc135 eZ
 have hg137 := hgd132.ch hc135 id
 have hB138 := hB131.ch hc135 id
 have ht139 := hB129.ch hc135 id
 refine yd (uL 0 26) [] (.l (ht139.c 10) (.l (ht139.c 0) (.l (hg137.c 0) (.q6 ((rs2 T p1 p2).grid.w - 1) (.l (ht139.c 11) (.l (ht139.c 0) (.l (hg137.c 1) .z))))))) <| dkeep [0, 77, 78, 79, 105, 106, 119, 123, 130] (f' := [(0, pX t), (77, .slice (some ⟨b43, 0, none⟩) 3 3), (78, iX 3), (79, iX 1), (105, .pointer (some ⟨t, 10, none⟩)), (106, .pointer (some ⟨t, 10, none⟩)), (119, iX (min ((rs2 T p1 p2).saved.x : Int) ((rs2 T p1 p2).grid.w - 1))), (123, iX (rs2 T p1 p2).saved.y), (130, iX (rs2 T p1 p2).grid.h)]) <| ydT (uL 26 4) [] rfl (fun _ => (.q6 ((rs2 T p1 p2).grid.h - 1) .z)) <| yK 30 (yS ht139 fun w140 hB141 hc142 => ?_)
 replace hB141 : Blk w140 t (TS.vals ({ (rs2 T p1 p2) with cursor := (Cur.mk (min ((rs2 T p1 p2).cursor.x : Int) ((rs2 T p1 p2).grid.w - 1)) (min (((rs2 T p1 p2).cursor.y - (upI T p2)) : Int) ((rs2 T p1 p2).grid.h - 1)) ((rs2 T p1 p2).cursor.late && (((rs2 T p1 p2).cursor.x : Int) == (rs2 T p1 p2).grid.w - 1)) (rs2 T p1 p2).cursor.sty), saved := (Cur.mk (min ((rs2 T p1 p2).saved.x : Int) ((rs2 T p1 p2).grid.w - 1)) (rs2 T p1 p2).saved.y ((rs2 T p1 p2).saved.late && (((rs2 T p1 p2).saved.x : Int) == (rs2 T p1 p2).grid.w - 1)) (rs2 T p1 p2).saved.sty), top := 0, bot := (rs2 T p1 p2).grid.h } : TS) g5 o5 (.slice ba5 bn5 bc5) (.slice pa5 pn5 pc5)) tTerm := Blk.to hB141 (by kernel_rfl)
 have hS144 := Ch.trans hS136 hc142 (fun i hi (h : i = t) => h)
 have hg145 := hg137.ch hc142 (fun h => htg6 h.symm)
 have hB146 := hB138.ch hc142 (fun (h : b43 = t) => by have := ht41.lt; omega)
 refine x_killed <| yd [31, 32] [] .z <| yK 33 (yS hB141 fun w147 hB148 hc149 => ?_)
 replace hB148 : Blk w147 t (TS.vals ({ (rs2 T p1 p2) with cursor := (Cur.mk (min ((rs2 T p1 p2).cursor.x : Int) ((rs2 T p1 p2).grid.w - 1)) (min (((rs2 T p1 p2).cursor.y - (upI T p2)) : Int) ((rs2 T p1 p2).grid.h - 1)) ((rs2 T p1 p2).cursor.late && (((rs2 T p1 p2).cursor.x : Int) == (rs2 T p1 p2).grid.w - 1)) (rs2 T p1 p2).cursor.sty), saved := (Cur.mk (min ((rs2 T p1 p2).saved.x : Int) ((rs2 T p1 p2).grid.w - 1)) (min ((rs2 T p1 p2).saved.y : Int) ((rs2 T p1 p2).grid.h - 1)) ((rs2 T p1 p2).saved.late && (((rs2 T p1 p2).saved.x : Int) == (rs2 T p1 p2).grid.w - 1)) (rs2 T p1 p2).saved.sty), top := 0, bot := (rs2 T p1 p2).grid.h } : TS) g5 o5 (.slice ba5 bn5 bc5) (.slice pa5 pn5 pc5)) tTerm := Blk.to hB148 (by kernel_rfl)
 have hS151 := Ch.trans hS144 hc149 (fun i hi (h : i = t) => h)
 have hg152 := hg145.ch hc149 (fun h => htg6 h.symm)
 have hB153 := hB146.ch hc149 (fun (h : b43 = t) => by have := ht41.lt; omega)
 refine x_killed <| yDe (nB (nS ?_))
 refine x_region <| yp 2 [] (.q6 2 .z) <| yE (nU (yU1 ?_))
 refine ysr <| yp 1 [] .z <| ye <| ys <| yct <| yk <| ys <| x_block <| ysr <| yp 3 [] (.i 2 (3) (.l (hB153.c 2) .z)) <| ye <| x_seq_cut ([(0, pX t), (9, .pointer (some ⟨t, 18, none⟩)), (77, .slice (some ⟨b43, 0, none⟩) 3 3), (78, iX 3), (79, iX 2)]) (fun u => Blk u t (TS.vals ({ (rs2 T p1 p2) with cursor := (Cur.mk (min ((rs2 T p1 p2).cursor.x : Int) ((rs2 T p1 p2).grid.w - 1)) (min (((rs2 T p1 p2).cursor.y - (upI T p2)) : Int) ((rs2 T p1 p2).grid.h - 1)) ((rs2 T p1 p2).cursor.late && (((rs2 T p1 p2).cursor.x : Int) == (rs2 T p1 p2).grid.w - 1)) (rs2 T p1 p2).cursor.sty), saved := (Cur.mk (min ((rs2 T p1 p2).saved.x : Int) ((rs2 T p1 p2).grid.w - 1)) (min ((rs2 T p1 p2).saved.y : Int) ((rs2 T p1 p2).grid.h - 1)) ((rs2 T p1 p2).saved.late && (((rs2 T p1 p2).saved.x : Int) == (rs2 T p1 p2).grid.w - 1)) (rs2 T p1 p2).saved.sty), away := (Cur.mk (rs2 T p1 p2).away.x (rs2 T p1 p2).away.y ((rs2 T p1 p2).away.late && (((rs2 T p1 p2).away.x : Int) == (rs2 T p1 p2).grid.w - 1)) (rs2 T p1 p2).away.sty), top := 0, bot := (rs2 T p1 p2).grid.h } : TS) g5 o5 (.slice ba5 bn5 bc5) (.slice pa5 pn5 pc5)) tTerm ∧ Ch (fun j => j = t) w17 u ∧ Blk u b43 [.pointer (some ⟨t, 2, none⟩), .pointer (some ⟨t, 10, none⟩), .pointer (some ⟨t, 18, none⟩)] 92) (fun K154 hK155 => ?_) (fun u156 hcut157 => ?_)
 ·refine yD [22] fun w158 hH159 hc160 => ?_
  have hS161 := Ch.trans hS151 hc160 eZ
  have hg162 := hg152.ch hc160 id
  have hB163 := hB153.ch hc160 id
  have ht164 := hB148.ch hc160 id
  refine yd (uL 0 6) [] (.l (ht164.c 20) .z) <| yv [88] (rY (rs2 T p1 p2).away.late) (fun hC165 => ?_) fun hC165 => ?_
  ·refine yd (uL 6 16) [] (.l (ht164.c 18) (.l (ht164.c 0) (.l (hg162.c 0) (.q6 ((rs2 T p1 p2).grid.w - 1) .z)))) <| yK 22 (yS ht164 fun w166 hB167 hc168 => ?_)
   replace hB167 : Blk w166 t (TS.vals ({ (rs2 T p1 p2) with cursor := (Cur.mk (min ((rs2 T p1 p2).cursor.x : Int) ((rs2 T p1 p2).grid.w - 1)) (min (((rs2 T p1 p2).cursor.y - (upI T p2)) : Int) ((rs2 T p1 p2).grid.h - 1)) ((rs2 T p1 p2).cursor.late && (((rs2 T p1 p2).cursor.x : Int) == (rs2 T p1 p2).grid.w - 1)) (rs2 T p1 p2).cursor.sty), saved := (Cur.mk (min ((rs2 T p1 p2).saved.x : Int) ((rs2 T p1 p2).grid.w - 1)) (min ((rs2 T p1 p2).saved.y : Int) ((rs2 T p1 p2).grid.h - 1)) ((rs2 T p1 p2).saved.late && (((rs2 T p1 p2).saved.x : Int) == (rs2 T p1 p2).grid.w - 1)) (rs2 T p1 p2).saved.sty), away := (Cur.mk (rs2 T p1 p2).away.x (rs2 T p1 p2).away.y (((rs2 T p1 p2).away.x : Int) == ((rs2 T p1 p2).grid.w - 1)) (rs2 T p1 p2).away.sty), top := 0, bot := (rs2 T p1 p2).grid.h } : TS) g5 o5 (.slice ba5 bn5 bc5) (.slice pa5 pn5 pc5)) tTerm := Blk.to hB167 (by kernel_rfl)
   have hS170 := Ch.trans hS161 hc168 (fun i hi (h : i = t) => h)
   have hB172 := hB163.ch hc168 (fun (h : b43 = t) => by have := ht41.lt; omega)
   refine x_killed <| yDe (fun a ha => hK155 _ ⟨Blk.to hB167 (by simp only [hC165, Bool.true_and, Bool.false_and]), hS170, hB172⟩ a (ha.kp [0, 9, 77, 78, 79]))
  refine yd (uL 6 16) [] .z <| yK 22 (yS ht164 fun w173 hB174 hc175 => ?_)
  replace hB174 : Blk w173 t (TS.vals ({ (rs2 T p1 p2) with cursor := (Cur.mk (min ((rs2 T p1 p2).cursor.x : Int) ((rs2 T p1 p2).grid.w - 1)) (min (((rs2 T p1 p2).cursor.y - (upI T p2)) : Int) ((rs2 T p1 p2).grid.h - 1)) ((rs2 T p1 p2).cursor.late && (((rs2 T p1 p2).cursor.x : Int) == (rs2 T p1 p2).grid.w - 1)) (rs2 T p1 p2).cursor.sty), saved := (Cur.mk (min ((rs2 T p1 p2).saved.x : Int) ((rs2 T p1 p2).grid.w - 1)) (min ((rs2 T p1 p2).saved.y : Int) ((rs2 T p1 p2).grid.h - 1)) ((rs2 T p1 p2).saved.late && (((rs2 T p1 p2).saved.x : Int) == (rs2 T p1 p2).grid.w - 1)) (rs2 T p1 p2).saved.sty), away := (Cur.mk (rs2 T p1 p2).away.x (rs2 T p1 p2).away.y false (rs2 T p1 p2).away.sty), top := 0, bot := (rs2 T p1 p2).grid.h } : TS) g5 o5 (.slice ba5 bn5 bc5) (.slice pa5 pn5 pc5)) tTerm := Blk.to hB174 (by kernel_rfl)
  have hS177 := Ch.trans hS161 hc175 (fun i hi (h : i = t) => h)
  have hB179 := hB163.ch hc175 (fun (h : b43 = t) => by have := ht41.lt; omega)
  refine x_killed <| yDe (fun a ha => hK155 _ ⟨Blk.to hB174 (by simp only [hC165, Bool.true_and, Bool.false_and]), hS177, hB179⟩ a (ha.kp [0, 9, 77, 78, 79]))
 obtain ⟨hB180, hS181, hB182⟩ := hcut157
 have hgd183 := hgd6.ch hS181 (fun h => htg6 h.symm)
 refine yD [30, 33] fun w184 hH185 hc186 => ?_
 have hS187 := Ch.trans hS181 hc186 eZ
 have hg188 := hgd183.ch hc186 id
 have ht190 := hB180.ch hc186 id
 refine yd (uL 0 26) [] (.l (ht190.c 18) (.l (ht190.c 0) (.l (hg188.c 0) (.q6 ((rs2 T p1 p2).grid.w - 1) (.l (ht190.c 19) (.l (ht190.c 0) (.l (hg188.c 1) .z))))))) <| ydT (uL 26 4) [] rfl (fun _ => (.q6 ((rs2 T p1 p2).grid.h - 1) .z)) <| yK 30 (yS ht190 fun w191 hB192 hc193 => ?_)
 replace hB192 : Blk w191 t (TS.vals ({ (rs2 T p1 p2) with cursor := (Cur.mk (min ((rs2 T p1 p2).cursor.x : Int) ((rs2 T p1 p2).grid.w - 1)) (min (((rs2 T p1 p2).cursor.y - (upI T p2)) : Int) ((rs2 T p1 p2).grid.h - 1)) ((rs2 T p1 p2).cursor.late && (((rs2 T p1 p2).cursor.x : Int) == (rs2 T p1 p2).grid.w - 1)) (rs2 T p1 p2).cursor.sty), saved := (Cur.mk (min ((rs2 T p1 p2).saved.x : Int) ((rs2 T p1 p2).grid.w - 1)) (min ((rs2 T p1 p2).saved.y : Int) ((rs2 T p1 p2).grid.h - 1)) ((rs2 T p1 p2).saved.late && (((rs2 T p1 p2).saved.x : Int) == (rs2 T p1 p2).grid.w - 1)) (rs2 T p1 p2).saved.sty), away := (Cur.mk (min ((rs2 T p1 p2).away.x : Int) ((rs2 T p1 p2).grid.w - 1)) (rs2 T p1 p2).away.y ((rs2 T p1 p2).away.late && (((rs2 T p1 p2).away.x : Int) == (rs2 T p1 p2).grid.w - 1)) (rs2 T p1 p2).away.sty), top := 0, bot := (rs2 T p1 p2).grid.h } : TS) g5 o5 (.slice ba5 bn5 bc5) (.slice pa5 pn5 pc5)) tTerm := Blk.to hB192 (by kernel_rfl)
 have hS195 := Ch.trans hS187 hc193 (fun i hi (h : i = t) => h)
 refine x_killed <| yd [31, 32] [] .z <| yK 33 (yS hB192 fun w198 hB199 hc200 => ?_)
 replace hB199 : Blk w198 t (TS.vals ({ (rs2 T p1 p2) with cursor := (Cur.mk (min ((rs2 T p1 p2).cursor.x : Int) ((rs2 T p1 p2).grid.w - 1)) (min (((rs2 T p1 p2).cursor.y - (upI T p2)) : Int) ((rs2 T p1 p2).grid.h - 1)) ((rs2 T p1 p2).cursor.late && (((rs2 T p1 p2).cursor.x : Int) == (rs2 T p1 p2).grid.w - 1)) (rs2 T p1 p2).cursor.sty), saved := (Cur.mk (min ((rs2 T p1 p2).saved.x : Int) ((rs2 T p1 p2).grid.w - 1)) (min ((rs2 T p1 p2).saved.y : Int) ((rs2 T p1 p2).grid.h - 1)) ((rs2 T p1 p2).saved.late && (((rs2 T p1 p2).saved.x : Int) == (rs2 T p1 p2).grid.w - 1)) (rs2 T p1 p2).saved.sty), away := (Cur.mk (min ((rs2 T p1 p2).away.x : Int) ((rs2 T p1 p2).grid.w - 1)) (min ((rs2 T p1 p2).away.y : Int) ((rs2 T p1 p2).grid.h - 1)) ((rs2 T p1 p2).away.late && (((rs2 T p1 p2).away.x : Int) == (rs2 T p1 p2).grid.w - 1)) (rs2 T p1 p2).away.sty), top := 0, bot := (rs2 T p1 p2).grid.h } : TS) g5 o5 (.slice ba5 bn5 bc5) (.slice pa5 pn5 pc5)) tTerm := Blk.to hB199 (by kernel_rfl)
 have hS202 := Ch.trans hS195 hc200 (fun i hi (h : i = t) => h)
 refine x_killed <| yDe (nB (nS ?_))
 refine x_region <| yp 2 [] (.q6 3 .z) <| yE (nU (yU1 ?_))
 refine ysr <| yp 1 [] .z <| ye <| ys <| ycf <| x_exit (eS (then_exit (block_exit (yR0' ?_))))
 have hI205 := hI6.scalar (T' := ({ (rs2 T p1 p2) with cursor := (Cur.mk (min ((rs2 T p1 p2).cursor.x : Int) ((rs2 T p1 p2).grid.w - 1)) (min (((rs2 T p1 p2).cursor.y - (upI T p2)) : Int) ((rs2 T p1 p2).grid.h - 1)) ((rs2 T p1 p2).cursor.late && (((rs2 T p1 p2).cursor.x : Int) == (rs2 T p1 p2).grid.w - 1)) (rs2 T p1 p2).cursor.sty), saved := (Cur.mk (min ((rs2 T p1 p2).saved.x : Int) ((rs2 T p1 p2).grid.w - 1)) (min ((rs2 T p1 p2).saved.y : Int) ((rs2 T p1 p2).grid.h - 1)) ((rs2 T p1 p2).saved.late && (((rs2 T p1 p2).saved.x : Int) == (rs2 T p1 p2).grid.w - 1)) (rs2 T p1 p2).saved.sty), away := (Cur.mk (min ((rs2 T p1 p2).away.x : Int) ((rs2 T p1 p2).grid.w - 1)) (min ((rs2 T p1 p2).away.y : Int) ((rs2 T p1 p2).grid.h - 1)) ((rs2 T p1 p2).away.late && (((rs2 T p1 p2).away.x : Int) == (rs2 T p1 p2).grid.w - 1)) (rs2 T p1 p2).away.sty), top := 0, bot := (rs2 T p1 p2).grid.h } : TS)) hS202 hB199 rfl rfl rfl rfl
 have hz1 := hX5.size
 have hz2 := hc6F.size
 have hz3 := Ch.size hS202
 have hXf : Ch F w w198 := Ch.trans hX6 hS202 (fun i _ h => h ▸ hFt)
 exact ⟨rfl, TermAt.eq' (show TermAt w198 t _ (more F w w198) from ⟨_, _, _, _, _, _, _, _, _, _, _, _, hI205.mono (fun b hb => hb.elim (fun h => h.elim .inl (fun h => .inr ⟨h.1, by omega⟩)) (fun h => .inr ⟨by omega, by omega⟩)) (hI.moreOk hXf.size)⟩) rfl, hXf⟩
end Go.Proofs.YteoejhjfbfacdaaDoor.X
namespace Go.Proofs.YteoejhjfbfacdaaDoor.X
open Go Go.RowKit Go.Proofs.YteoejhjfbfacdaaDoor
structure Stp where
 text : ByteArray
 w : Int
 h : Int
def stp0 : Stp := ⟨ByteArray.empty, 0, 0⟩
def Stp.vals (x : Stp) : List Value := [.string x.text, .int .i64 x.w, .int .i64 x.h]
def flatS : List Stp → List Value
 | [] => []
 | x :: l => x.vals ++ flatS l
def gs (l : List Stp) (k : Nat) : Stp := l.getD k stp0
theorem flatS_len (l : List Stp) : (flatS l).length = l.length * 3 := by
 induction l with
 | nil => rfl
 | cons c l ih => simp [flatS, Stp.vals, ih]; omega
theorem flatS_get : ∀ (l : List Stp) (k j : Nat), k < l.length → j < 3 → (flatS l)[k * 3 + j]? = (gs l k).vals[j]?
 | [], k, j, h, _ => by simp at h
 | x :: l, 0, j, _, hj => by
  rw [flatS, Nat.zero_mul, Nat.zero_add, List.getElem?_append_left (by simp [Stp.vals]; omega)]; rfl
 | x :: l, k + 1, j, h, hj => by
  rw [flatS, List.getElem?_append_right (by simp [Stp.vals]; omega)]
  rw [show (k + 1) * 3 + j - x.vals.length = k * 3 + j by simp [Stp.vals]; omega, flatS_get l k j (by simpa using h) hj]
  rfl
section
variable {w : World} {b off : Nat} {l : List Stp} {k : Nat} (h : Rd w (some ⟨b, off, none⟩) (flatS l)) (hk : k < l.length)
include h hk
theorem s_text : w.cell? ⟨b, off + ((k : Nat) : Int).toNat * 3, none⟩ = some (.string (gs l k).text) := by
 rw [Int.toNat_natCast]; exact rd_at h (k * 3) _ (flatS_get l k 0 hk (by decide))
theorem s_w : w.cell? ⟨b, off + ((k : Nat) : Int).toNat * 3 + 1, none⟩ = some (.int .i64 (gs l k).w) := by
 rw [Int.toNat_natCast, Nat.add_assoc]; exact rd_at h (k * 3 + 1) _ (flatS_get l k 1 hk (by decide))
theorem s_h : w.cell? ⟨b, off + ((k : Nat) : Int).toNat * 3 + 2, none⟩ = some (.int .i64 (gs l k).h) := by
 rw [Int.toNat_natCast, Nat.add_assoc]; exact rd_at h (k * 3 + 2) _ (flatS_get l k 2 hk (by decide))
end
def shortB (l : List Stp) : Bool := decide (l.length ≤ 40) && l.all fun x => decide (x.text.size ≤ 600)
theorem shortB_iff {l : List Stp} : shortB l = true ↔ l.length ≤ 40 ∧ ∀ k, k < l.length → (gs l k).text.size ≤ 600 := by
 unfold shortB
 rw [Bool.and_eq_true, decide_eq_true_eq, List.all_eq_true]
 refine and_congr_right fun _ => ⟨fun h k hk => ?_, fun h x hx => ?_⟩
 ·have := h l[k] (List.getElem_mem hk)
  have e : gs l k = l[k] := by simp [gs, List.getD, hk]
  rw [e]; exact of_decide_eq_true this
 ·obtain ⟨k, hk, rfl⟩ := List.mem_iff_getElem.1 hx
  have := h k hk
  have e : gs l k = l[k] := by simp [gs, List.getD, hk]
  rw [e] at this; exact decide_eq_true this
def doT (T : TS) (x : Stp) : TS := if x.w = 0 ∧ x.h = 0 then writeT T x.text else resizeT T x.w x.h
def doN (T : TS) (l : List Stp) : Nat → TS
 | 0 => T
 | k + 1 => doT (doN T l k) (gs l k)
theorem fine_resize {T : TS} (h : Fine T) (p1 p2 : Int) : Fine (resizeT T p1 p2) := by
 obtain ⟨⟨W, H, h⟩, hp⟩ := h
 exact ⟨⟨_, _, lim_resize h p1 p2⟩, by rw [resize_parser]; exact hp⟩
theorem fine_do {T : TS} (h : Fine T) (x : Stp) : Fine (doT T x) := by
 unfold doT
 split
 ·exact fine_write h _
 ·exact fine_resize h _ _
theorem gr_do {T : TS} (h : T.parser.gr) (x : Stp) : (doT T x).parser.gr := by
 unfold doT
 split
 ·exact gr_write h _
 ·rw [resize_parser]; exact h
theorem gr_doN {T : TS} (h : T.parser.gr) (l : List Stp) : ∀ k, (doN T l k).parser.gr
 | 0 => h
 | k + 1 => gr_do (gr_doN h l k) _
end Go.Proofs.YteoejhjfbfacdaaDoor.X
namespace Go.Proofs.YteoejhjfbfacdaaDoor.X
open Go Go.RowKit Go.Proofs.YteoejhjfbfacdaaDoor
set_option maxHeartbeats 4000000 in
theorem do_at {w : World} {t : Nat} {T : TS} {F : Nat → Prop} (hA : TermAt w t T F) (hT : LT w) (hf : Fine T) (x : Stp) (hx : x.text.size ≤ 1000000) : Calls Tryd.prog 23 [.pointer (some ⟨t, 0, none⟩), .agg #[.string x.text, .int .i64 x.w, .int .i64 x.h]].toArray w fun e w' => e = .returned (.tuple #[]) ∧ TermAt w' t (doT T x) (more F w w') ∧ Ch F w w' := by
 obtain ⟨⟨W, H, hL⟩, hp⟩ := hf
 refine yA Tryd.func23 rfl <| ysr <| yo (yN [.string x.text, iX x.w, iX x.h] 65 fun w10 b11 hb12 hz13 hB14 hc15 => ?_)
 have hlo16 : w.heap.size ≤ b11 := by rw [hb12]; exact Ch.size (Up.refl w.heap.size w)
 have hu17 := Up.step (Up.refl w.heap.size w) hc15 iZ
 refine ye <| ys <| ysr <| yp 4 [] (.l (hB14.c 1) .z) <| yw [7] (rE x.w 0) (fun hC18 => ?_) fun hC18 => ?_
 ·have hpp0 := hC18
  refine yp 8 [] (.l (hB14.c 2) .z) <| ye <| yc (rE x.h 0) (fun hC19 => ?_) fun hC19 => ?_
  ·have hpp1 := hC19
   refine ysr <| yp 3 [] (.l (hB14.c 0) .z) ?_
   have hq := Up.ch hu17
   have hA1 := hA.ch hq iZ
   have hT1 := lt_ch hq hT (fun _ h => h.elim)
   refine yo (yQ (write_at hA1 hT1 hL hp x.text hx) ?_)
   rintro w20 ⟨hB, hc⟩
   refine ye <| x_ret (rS (yR0 ?_))
   exact ⟨rfl, TermAt.eq' (hB.mono (more_le hq.size) (hA.moreOk (Nat.le_trans hq.size hc.size))) (if_pos ⟨hpp0, hpp1⟩), (hq.mono eZ).trans hc iZ⟩
  have hpp1 := hC19
  refine yk <| x_region <| yp 5 [] (.l (hB14.c 1) (.l (hB14.c 2) .z)) ?_
  have hq := Up.ch hu17
  have hA1 := hA.ch hq iZ
  have hT1 := lt_ch hq hT (fun _ h => h.elim)
  refine yo (yQ (resize_at hA1 hT1 hL x.w x.h) ?_)
  rintro w21 ⟨hB, hc⟩
  refine yE (yR0' ?_)
  exact ⟨rfl, TermAt.eq' (hB.mono (more_le hq.size) (hA.moreOk (Nat.le_trans hq.size hc.size))) (if_neg (fun h => hpp1 h.2)), (hq.mono eZ).trans hc iZ⟩
 have hpp0 := hC18
 refine yp 8 [] .z <| ye <| ycf <| yk <| x_region <| yp 5 [] (.l (hB14.c 1) (.l (hB14.c 2) .z)) ?_
 have hq := Up.ch hu17
 have hA1 := hA.ch hq iZ
 have hT1 := lt_ch hq hT (fun _ h => h.elim)
 refine yo (yQ (resize_at hA1 hT1 hL x.w x.h) ?_)
 rintro w22 ⟨hB, hc⟩
 refine yE (yR0' ?_)
 exact ⟨rfl, TermAt.eq' (hB.mono (more_le hq.size) (hA.moreOk (Nat.le_trans hq.size hc.size))) (if_neg (fun h => hpp0 h.1)), (hq.mono eZ).trans hc iZ⟩
theorem Sys.do {w0 w : World} {bs : List (Nat × List Value × TypeId)} {ts : List (Nat × TS)} (h : Sys w0 w bs ts) {i t : Nat} {T : TS} (hi : ts[i]? = some (t, T)) (x : Stp) (hx : x.text.size ≤ 1000000) : Calls Tryd.prog 23 [.pointer (some ⟨t, 0, none⟩), .agg #[.string x.text, .int .i64 x.w, .int .i64 x.h]].toArray w fun e w' => e = .returned (.tuple #[]) ∧ Sys w0 w' bs (ts.set i (t, doT T x)) :=
  h.step hi (fun F hA hl hf => do_at hA hl hf x hx) (fun hf => fine_do hf x)
end Go.Proofs.YteoejhjfbfacdaaDoor.X
namespace Go.Proofs.YteoejhjfbfacdaaDoor.X
open Go Go.RowKit Go.Proofs.YteoejhjfbfacdaaDoor
def fitT : TS := writeT (startT zeroT 3 2) (⟨#[27, 91, 50, 59, 51, 72, 120]⟩ : ByteArray)
theorem fit_facts : (atG fitT.grid 2 1).rune = 120 ∧ fitT.cursor.late = true ∧ fitT.grid.w = 3 ∧ fitT.grid.h = 2 ∧ fitT.other.h = 2 := by decide +kernel
set_option maxHeartbeats 4000000 in
theorem lawfit_any (w : World) (hT : LT w) (h7 : gTop ≤ w.heap.size) : Calls Tryd.prog 10 [].toArray w fun e w' => e = .returned (.bool true) ∧ Ch (fun _ => False) w w' := by
 have hS := Sys.start hT h7
 refine yA Tryd.func10 rfl <| ysr <| yp 1 [] .z <| ye <| ysr <| yo (yC (hS.new (3) (2)) ?_)
 rintro _ w13 ⟨t10, rfl, hS11, hc12⟩
 refine ⟨_, rfl, ?_⟩
 replace hS11 : Sys w w13 [] [(t10, (startT zeroT (3) (2)))] := hS11
 refine yp 2 [] .z <| ye <| ys <| ysr ?_
 obtain ⟨g14, F15, hg16, hG17⟩ := hS11.grid (i := 0) rfl
 obtain ⟨r18, rc19, rows20, hI21⟩ := hG17
 have hlenhI21 := hI21.len
 obtain ⟨g22, F23, hg24, hG25⟩ := hS11.other (i := 0) rfl
 obtain ⟨r26, rc27, rows28, hI29⟩ := hG25
 have hlenhI29 := hI29.len
 refine yp 16 [] (.l hg16 (.l hg24 .z)) <| ye <| ycf <| yk <| ysr <| yp 1 [] .z <| yo (yQ (hS11.write (i := 0) rfl (⟨#[27, 91, 50, 59, 51, 72, 120]⟩ : ByteArray) (by first | decide | omega)) fun w31 hS30 => ?_)
 replace hS30 : Sys w w31 [] [(t10, fitT)] := hS30
 refine ye <| ysr ?_
 obtain ⟨g32, F33, hg34, hG35⟩ := hS30.grid (i := 0) rfl
 obtain ⟨r36, rc37, rows38, hI39⟩ := hG35
 have hlenhI39 := hI39.len
 refine yp 4 [] (.l hg34 .z) <| yo (yQ (at_any _ _ _ (2) (1) _ hS30.lt.tb ⟨_, _, _, hI39⟩) fun w41 hc40 => ?_)
 have hS42 := hS30.same hc40
 have hg43 := cell_ch hc40 hg34 id
 have hI44 := hI39.ch hc40 iZ
 refine yp 8 [] .z <| yw [28] (rE (atG fitT.grid (2) (1)).rune 120) (fun hC45 => ?_) fun hC45 => ?_
 ·refine yp 15 [] (.l (v := .bool fitT.cursor.late) (hS42.cell (i := 0) (t := t10) (T := fitT) rfl 4 (fun _ _ _ _ => by kernel_rfl)) .z) <| yw [35] (rY fitT.cursor.late) (fun hC46 => ?_) fun hC46 => ?_
  ·refine yp 25 [] (.l hg43 (.l (hI44.head.c 0) .z)) <| yw [45] (rE fitT.grid.w 3) (fun hC47 => ?_) fun hC47 => ?_
   ·refine yp 36 [] (.l hg43 (.l (hI44.head.c 2) .z)) <| yw [56] (rE ((rows38.length : Nat) : Int) 2) (fun hC48 => ?_) fun hC48 => ?_
    ·obtain ⟨g49, F50, hg51, hG52⟩ := hS42.other (i := 0) rfl
     obtain ⟨r53, rc54, rows55, hI56⟩ := hG52
     have hlenhI56 := hI56.len
     refine yp 47 [] (.l hg51 (.l (hI56.head.c 2) .z)) <| ye <| x_ret (yR1 (.bool ((((rows55.length : Nat) : Int) : Int) == 2)) ?_)
     refine ⟨congrArg Ending.returned (congrArg Value.bool ?_), hS42.ch⟩
     obtain ⟨f1, f2, f3, f4, f5⟩ := fit_facts
     rw [beq_iff_eq]; omega
    exfalso; obtain ⟨f1, f2, f3, f4, f5⟩ := fit_facts; first | omega | (rw [f2] at hC48; cases hC48)
   exfalso; obtain ⟨f1, f2, f3, f4, f5⟩ := fit_facts; first | omega | (rw [f2] at hC47; cases hC47)
  exfalso; obtain ⟨f1, f2, f3, f4, f5⟩ := fit_facts; first | omega | (rw [f2] at hC46; cases hC46)
 exfalso; obtain ⟨f1, f2, f3, f4, f5⟩ := fit_facts; first | omega | (rw [f2] at hC45; cases hC45)
end Go.Proofs.YteoejhjfbfacdaaDoor.X
namespace Go.Proofs.YteoejhjfbfacdaaDoor.X
open Go Go.RowKit Go.Proofs.YteoejhjfbfacdaaDoor
theorem ite_r {c : Prop} [Decidable c] {a b : TS} {p : ByteArray} (h1 : a.reply = p) (h2 : b.reply = p) : (if c then a else b).reply = p := by split <;> assumption
theorem scrollT_r (T : TS) (n : Int) : (scrollT T n).reply = T.reply := ite_r rfl rfl
theorem downT_r (T : TS) : (downT T).reply = T.reply := ite_r (scrollT_r T 1) (ite_r rfl rfl)
theorem printT_r (T : TS) (r : Int) : (printT T r).reply = T.reply := by
 have hA : ∀ T, (printA T).reply = T.reply := fun T => ite_r (downT_r _) rfl
 have hB : ∀ T n, (printB T n).reply = T.reply := fun T n => ite_r (ite_r (downT_r _) rfl) rfl
 have hC : ∀ T n, (printC T n).reply = T.reply := fun T n => ite_r rfl rfl
 have hE : ∀ T n, (printE T n).reply = T.reply := fun T n => ite_r rfl rfl
 unfold printT
 rw [hE]
 show (printC (printB (printA T) (signT T r).2) (signT T r).2).reply = _
 rw [hC, hB, hA]
theorem execT_r (T : TS) (c : Int) : (execT T c).reply = T.reply :=
 ite_r rfl (ite_r rfl (ite_r (downT_r T) (ite_r (downT_r T) (ite_r (downT_r T) (ite_r rfl (ite_r rfl (ite_r rfl rfl)))))))
theorem acts_r : ∀ (l : List Ac) (T : TS), (∀ a ∈ l, a.kind = 0 ∨ a.kind = 1) → (l.foldl actT T).reply = T.reply
 | [], _, _ => rfl
 | a :: l, T, h => by
  have h1 : (actT T a).reply = T.reply := by
   unfold actT
   rcases h a (List.mem_cons_self ..) with e | e
   ·rw [if_pos e]; exact printT_r _ _
   ·rw [if_neg (by omega), if_pos e]; exact execT_r _ _
  exact (acts_r l (actT T a) fun b hb => h b (List.mem_cons_of_mem _ hb)).trans h1
theorem kinds24 (p : PS) : ∀ a ∈ (feedP p 24).2, a.kind = 0 ∨ a.kind = 1 := by
 unfold feedP
 refine ite_fed (P := fun r => ∀ a ∈ r.2, a.kind = 0 ∨ a.kind = 1) (fun _ => (fun a ha => by cases ha)) (fun h7 => ?_)
 unfold feedP1
 refine ite_fed (P := fun r => ∀ a ∈ r.2, a.kind = 0 ∨ a.kind = 1) (fun h0 => (ground_kind (by decide) h0).2) (fun h0 => ?_)
 exact ite_fed (P := fun r => ∀ a ∈ r.2, a.kind = 0 ∨ a.kind = 1) (fun _ => (fun a ha => by cases ha)) (fun _ => (fun a ha => by cases ha))
abbrev bAnew : ByteArray := ⟨#[24, 27, 99]⟩
theorem esc_c {U : TS} (h : U.parser = atP 0) : feedT (feedT U 27) 99 = startT U U.grid.w U.grid.h := by
 cases U
 dsimp only at h
 subst h
 kernel_rfl
theorem anew_way {T : TS} (hf : Fine T) (hg : T.parser.gr) : (writeT T bAnew).reply = T.reply ∧ ({ writeT T bAnew with reply := ByteArray.empty } : TS) = startT zeroT (writeT T bAnew).grid.w (writeT T bAnew).grid.h ∧ Fine (writeT T bAnew) := by
 have hp : (feedT T 24).parser = atP 0 := by rw [feedT_p]; exact feed24 hg
 have e : writeT T bAnew = startT (feedT T 24) (feedT T 24).grid.w (feedT T 24).grid.h := (show writeT T bAnew = feedT (feedT (feedT T 24) 27) 99 from rfl).trans (esc_c hp)
 have hr : (feedT T 24).reply = T.reply := acts_r _ _ (kinds24 T.parser)
 obtain ⟨⟨W, H, hL⟩, _⟩ := hf
 have hL2 := lim_feed hL 24
 have hw : sideI (feedT T 24).grid.w = (feedT T 24).grid.w := sideI_id (by rw [hL2.g1.1]; exact hL2.wb)
 have hh : sideI (feedT T 24).grid.h = (feedT T 24).grid.h := sideI_id (by rw [hL2.g1.2]; exact hL2.hb)
 refine ⟨by rw [e]; exact hr, ?_, fine_write ⟨⟨W, H, hL⟩, by assumption⟩ _⟩
 rw [e]
 show ({ startT (feedT T 24) (feedT T 24).grid.w (feedT T 24).grid.h with reply := ByteArray.empty } : TS) = startT zeroT (sideI (feedT T 24).grid.w) (sideI (feedT T 24).grid.h)
 rw [hw, hh]
 unfold startT
 rw [hp]
 rfl
end Go.Proofs.YteoejhjfbfacdaaDoor.X
