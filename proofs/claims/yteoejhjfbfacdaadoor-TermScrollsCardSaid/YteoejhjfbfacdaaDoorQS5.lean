/- What the proof of TermScrolls needs, part 5: the walks of the program's functions and the plain laws about them. -/
import Derived.Test.YteoejhjfbfacdaaDoorQS4
import Derived.Test.YteoejhjfbfacdaaDoorRows
import Derived.ProofKit
import Derived.OpenShut
import Derived.ChangeArms
import Derived.LaidMore
import Derived.Lay
import Derived.Stop.Joined
import Derived.Below
import Derived.SevenTiedAt
import Derived.SliceStrings
import Derived.Deep.Slices
import Derived.Carry
set_option linter.unusedSimpArgs false
set_option linter.unusedVariables false
namespace Go.Proofs.YteoejhjfbfacdaaDoor.X
open Go Go.RowKit Go.Proofs.YteoejhjfbfacdaaDoor
def zeroT : TS := { grid := ⟨0, 0, []⟩, other := ⟨0, 0, []⟩, cursor := cur0, saved := cur0, away := cur0, top := 0, bot := 0, tabs := fun _ => false, wrap := false, origin := false, insert := false, hidden := false, draw0 := false, draw1 := false, shift := false, alt := false, title := ByteArray.empty, back := [], parser := ⟨0, ⟨0, 0, 0, 0⟩, ByteArray.empty, [], ByteArray.empty, 0⟩, reply := ByteArray.empty }
set_option maxHeartbeats 4000000 in
theorem tnew_any (p1 p2 : Int) (w : World) (hT : LT w) (h7 : gTop ≤ w.heap.size) : Calls Tryd.prog 11 [iX p1, iX p2].toArray w fun e w' => ∃ t, e = .returned (pX t) ∧ TermAt w' t (startT zeroT p1 p2) (fun b => w.heap.size ≤ b ∧ b < w'.heap.size) ∧ Ch (fun _ => False) w w' := by
 refine yA Tryd.func11 rfl <| ysr <| yp 1 [] .z <| ye <| ysr <| yp 1 [] .z <| yo (yN [.pointer none, .pointer none, iX 0, iX 0, .bool false, .bool false, .bool false, .bool false, iX 0, iX 0, iX 0, iX 0, .bool false, .bool false, .bool false, .bool false, iX 0, iX 0, iX 0, iX 0, .bool false, .bool false, .bool false, .bool false, iX 0, iX 0, iX 0, iX 0, .bool false, .bool false, .bool false, .bool false, .bool false, .bool false, .bool false, .bool false, .bool false, .bool false, .bool false, .bool false, .bool false, .bool false, .bool false, .bool false, .bool false, .bool false, .bool false, .bool false, .bool false, .bool false, .bool false, .bool false, .bool false, .bool false, .bool false, .bool false, .bool false, .bool false, .bool false, .bool false, .bool false, .bool false, .bool false, .bool false, .bool false, .bool false, .bool false, .bool false, .bool false, .bool false, .bool false, .bool false, .bool false, .bool false, .bool false, .bool false, .bool false, .bool false, .bool false, .bool false, .bool false, .bool false, .bool false, .bool false, .bool false, .bool false, .bool false, .bool false, .bool false, .bool false, .bool false, .bool false, .bool false, .bool false, .bool false, .bool false, .string ByteArray.empty, .slice none 0 0, iX 0, uX 0, uX 0, uX 0, iX 0, .string ByteArray.empty, .slice none 0 0, .string ByteArray.empty, iX 0, .string ByteArray.empty] 41 fun w10 b11 hb12 hz13 hB14 hc15 => ?_)
 have hlo16 : w.heap.size ≤ b11 := by rw [hb12]; exact Ch.size (Up.refl w.heap.size w)
 have hu17 := Up.step (Up.refl w.heap.size w) hc15 iZ
 refine yp 3 [] .z <| ye <| ysr <| yp 3 [] .z ?_
 have hBz : Blk w10 b11 (zeroT.valsG (.pointer none) (.pointer none) (.slice none 0 0) (.slice none 0 0)) tTerm := Blk.to hB14 (by kernel_rfl)
 have hszb := Ch.size hu17
 have hPz : PsAt w10 b11 none 0 0 zeroT.parser.params (fun _ => False) := ⟨⟨Rd.nil _ _, rfl, fun _ => rfl, fun ad e => by cases e⟩, ⟨none, rfl⟩, fun b h => h.elim⟩
 have hT20 := lt_ch (Up.ch hu17) hT (fun _ h => h.elim)
 refine yo (yQ (start_any hBz hPz (by omega) hT20 (by decide) p1 p2) ?_)
 rintro w21 ⟨hA18, hc19⟩
 refine ye <| ysr <| yp 2 [] .z <| ye <| x_ret (yR1 (pX b11) ?_)
 refine ⟨b11, rfl, TermAt.mono hA18 (fun b hb => ?_) (fun b hb => ⟨hb.2, by omega⟩), Ch.trans (Up.ch hu17) hc19 (fun i hi h => ?_)⟩
 ·have hz := Ch.size hc19
  rcases hb with rfl | hb | hb
  ·exact ⟨by omega, by have := hBz.lt; omega⟩
  ·exact hb.elim
  exact ⟨by omega, hb.2⟩
 rcases h with rfl | h
 ·omega
 exact h
theorem feed_anyX {X : PS × List Ac} {w : World} {po : Option Nat} {pn pc : Nat} {p : PS} {c : Int} (hX : feedP p c = X) (hP : IntsAt w .i64 po pn pc p.params (fun b => po = some b)) (hcB : 0 ≤ c ∧ c ≤ 255) (hU : UTabs w) (hp : p.lim) (hn8 : pn ≤ 8) : Calls Tryd.prog 25 [.agg #[iX p.state, uX p.utf.b0, uX p.utf.b1, uX p.utf.b2, iX p.utf.n, .string p.marks, .slice (po.map at0) pn pc, .string p.text, iX p.within], uX c].toArray w fun e w' => Fed w w' e po X.1 X.2 := by
 subst hX
 exact feed_any hP c hcB hU hp hn8
set_option maxHeartbeats 4000000 in
theorem write_at {w : World} {t : Nat} {W H : Int} {T : TS} {F : Nat → Prop} (hA0 : TermAt w t T F) (hT : LT w) (hL : Lim W H T) (hp : T.parser.lim) (s : ByteArray) (hs : s.size ≤ 1000000) : Calls Tryd.prog 12 [pX t, .string s].toArray w fun e w' => e = .returned (.tuple #[]) ∧ TermAt w' t (writeT T s) (more F w w') ∧ Ch F w w' := by
 obtain ⟨g, o, ba, bn, bc, pa, pn, pc, F1, F2, FB, FP, hI⟩ := hA0
 have hA0 : TermAt w t T F := ⟨g, o, ba, bn, bc, pa, pn, pc, F1, F2, FB, FP, hI⟩
 have hFt := hI.inF.1
 obtain ⟨gv, hgd⟩ := hI.g1.head
 have htg : Df t g := fun e => hI.t1 (e ▸ hI.g1.inF)
 obtain ⟨⟨hw1, hw2⟩, ⟨hh1, hh2⟩, hll, hall⟩ := hI.g1.ok
 have hL0 := hL
 have hla := hL0.all
 refine yA Tryd.func12 rfl <| ysr <| yp 3 [] .z <| ye <| x_block ?_
 have hX10 := hI.cht (Ch.refl (fun j => j = t) w)
 have hA11 := hI.pk1 hI hX10
 refine ykeep [0, 1, 9, 10] (f' := [(0, pX t), (1, .string s), (9, iX ((s).size : Int)), (10, iX 0)]) <| x_loop (σ := Nat) (fun k => [(0, pX t), (1, .string s), (9, iX ((s).size : Int)), (10, iX ((k : Nat) : Int))]) (fun k u => k ≤ s.size ∧ (TermAt u t (writeN T s k) (more F w u) ∧ Ch F w u)) (fun k => s.size - k) 0 rfl ?_ ?_
 ·exact ⟨Nat.zero_le _, (TermAt.eq' hA11 rfl), hX10⟩
 intro k w12 hI13 K14 hL15
 obtain ⟨hk, hN16, hX17⟩ := hI13
 have hT19 := lt_ch hX17 hT (fun b hb => hI.hi b hb)
 have hL21 : Lim W H (writeN T s k) := (lim_write hL s k)
 generalize hE21 : (writeN T s k) = T21 at hN16 hL21
 have hM21 := hL21
 have hla21 := hM21.all
 obtain ⟨g21, o21, ba21, bn21, bc21, pa21, pn21, pc21, F121, F221, FB21, FP21, hI20⟩ := hN16
 obtain ⟨gv21, hgd22⟩ := hI20.g1.head
 have htg23 : Df t g21 := fun e => hI20.t1 (e ▸ hI20.g1.inF)
 obtain ⟨po24, hpo24, hpi24, hpf24⟩ := hI20.ints
 subst hpo24
 refine ysr <| yp 1 [] .z <| ye <| ys <| yc (rL ((k : Nat) : Int) ((s).size : Int)) (fun hC25 => ?_) fun hC25 => ?_
 ·refine yk <| ys <| x_block <| ysr <| yp 2 [] .z <| ye <| ysr <| yp 1 [] .z <| ye <| ys <| yD [8, 14] fun w26 hH27 hc28 => ?_
  have hS29 := Ch.trans (Ch.refl (fun j => j = t) w12) hc28 eZ
  have hT30 := lt_ch hc28 hT19 (fun _ h => h.elim)
  have ht31 := hI20.blk.ch hc28 id
  have hpi33 := hpi24.ch hc28 iZ
  refine yd (uL 0 8) [] (.a (ht31.cs 98 9) (.i ((k : Nat) : Int) ((s).size) .z)) ?_
  have hI34 := hI20.scalar (T' := T21) hS29 ht31 rfl rfl rfl rfl
  have hI44 := hI20.scalar (T' := T21) hS29 ht31 rfl rfl rfl rfl
  have hX45 := Ch.on hX17 hS29 hFt
  have hA46 := hI44.pk2 hS29 hI hX45
  have hI47 := hI44.mono (F' := more F w w26) (fun b hb => hb.elim .inl (fun h2 => .inr ⟨h2.1, by have := Ch.size hS29; omega⟩)) (hI.moreOk hX45.size)
  obtain ⟨X48, hX49⟩ : ∃ X, feedP T21.parser (bt s ((k : Nat) : Int)) = X := ⟨_, rfl⟩
  have hpl : (T21.parser).lim := (hE21 ▸ plim_write hp s k)
  have hfok := fed_feed hpl (bt_range s ((k : Nat) : Int))
  have hfl := fed_len hpl (bt s ((k : Nat) : Int))
  rw [hX49] at hfok hfl
  refine yK 8 (yC ((feed_anyX hX49 (p := T21.parser) hpi33 (bt_range s _) hT30.ut hpl (by have := hpl.n; have := hpi33.2.1; omega))) ?_)
  rintro _ w54 ⟨qo35, qn36, qc37, ao38, an39, ac40, rfl, hq41, ha42, hc43⟩
  refine ⟨_, rfl, ?_⟩
  have hsz1 := Ch.size hc43
  have hT56 := lt_ch hc43 hT30 (fun _ h => h.elim)
  have ht57 := ht31.ch hc43 id
  refine x_killed <| yd (uL 9 5) [] .z ?_
  have hI63 := hI47.same hc43 iZ
  refine yK 14 (e_store 98 [iX X48.1.state, uX X48.1.utf.b0, uX X48.1.utf.b1, uX X48.1.utf.b2, iX X48.1.utf.n, .string X48.1.marks, .slice (qo35.map at0) qn36 qc37, .string X48.1.text, iX X48.1.within] none (by kernel_rfl) ht57 (of_ble (by kernel_rfl)) ?_)
  intro w60 hB61 hc62
  replace hB61 : Blk w60 t (TS.vals ({ T21 with parser := X48.1 } : TS) g21 o21 (.slice ba21 bn21 bc21) (.slice (qo35.map at0) qn36 qc37)) tTerm := Blk.to hB61 (by kernel_rfl)
  have hqK : ∀ b, qo35 = some b → po24 = some b ∨ (w26.heap.size ≤ b ∧ b < w54.heap.size) := fun b e => (hq41.2.2.2 b e).1
  have hFlt : ∀ b, more F w w26 b → b < w26.heap.size ∧ gTop ≤ b := hI.moreOk hX45.size
  have hq2 : ∀ b, qo35 = some b → ¬ b = t := fun b e h => (hqK b e).elim (fun h2 => hI63.tP (h ▸ hpf24 b h2)) (fun h2 => by have := (hFlt t (.inl hFt)).1; omega)
  have hq3 := hq41.ch hc62 (fun b hb (h : b = t) => hb.elim (fun h2 => hI63.tP (h ▸ hpf24 b h2)) (fun h2 => by have := (hFlt t (.inl hFt)).1; omega))
  have hI5 := hI63.newPs hc62 (p' := X48.1) hB61 hq3 (fun b e => (hqK b e).imp (fun h => hpf24 b h) (fun h => ⟨fun h2 => by have := (hFlt b h2).1; omega, by have := (hFlt t (.inl hFt)).2; have := (hFlt t (.inl hFt)).1; omega⟩))
  obtain ⟨F2, hF2⟩ : ∃ F' : Nat → Prop, F' = fun b => more F w w26 b ∨ qo35 = some b := ⟨_, rfl⟩
  rw [← hF2] at hI5
  have hF2in : ∀ b, F2 b → more F w w60 b := fun b hb => by
   rw [hF2] at hb
   rcases hb with hb | hb
   ·exact hb.imp id fun h => ⟨h.1, by have := Ch.size hc62; omega⟩
   rcases hqK b hb with h | h
   ·exact (hI63.inF.2.2.2.2 b (hpf24 b h)).imp id fun h => ⟨h.1, by have := Ch.size hc62; omega⟩
   exact .inr ⟨by have := Ch.size hX45; omega, by have := Ch.size hc62; omega⟩
  have hcw2 : Ch F w w60 := Ch.trans (Ch.trans hX45 hc43 eZ) hc62 (fun i _ h => h ▸ hFt)
  have hKlt : ∀ b, ((w26.heap.size ≤ b ∧ b < w54.heap.size) ∧ qo35 ≠ some b) → b < w60.heap.size := fun b hb => by have := Ch.size hc62; omega
  have hKF : ∀ b, ((w26.heap.size ≤ b ∧ b < w54.heap.size) ∧ qo35 ≠ some b) → ¬ F2 b := fun b hb h => by
   rw [hF2] at h
   rcases h with h | h
   ·have := (hFlt b h).1; omega
   exact hb.2 h
  have hT65 := lt_ch hc62 hT56 (fun b (h : b = t) => h ▸ hI.hi t hFt)
  have hac66 := ha42.ch hc62 (fun b hb (h : b = t) => by have := (hFlt t (.inl hFt)).1; omega)
  have hFt2 : F2 t := hI5.inF.1
  have hA5 : TermAt w60 t ({ T21 with parser := X48.1 } : TS) F2 := ⟨_, _, _, _, _, _, _, _, _, _, _, _, hI5⟩
  have hL67 : Lim W H ({ T21 with parser := X48.1 } : TS) := lim_parser hL21 _
  generalize hE68 : ({ T21 with parser := X48.1 } : TS) = T68 at hI5 hA5 hL67
  obtain ⟨gv68, hgd69⟩ := hI5.g1.head
  have htg70 : Df t g21 := fun e => hI5.t1 (e ▸ hI5.g1.inF)
  refine x_killed <| yd [15] [] .z <| yDe (nS ?_)
  refine ysr <| yp 3 [] .z <| ye <| x_block ?_
  rcases ao38 with _ | ab
  ·have hnl : X48.2.length = an39 := hac66.len
   have hn0 : an39 = 0 := by
    obtain ⟨vss, h1, h2, h3⟩ := hac66.ex
    exact (h1.2.2.2.1 rfl).1
   have hX71 := hI5.cht (Ch.refl (fun j => j = t) w60)
   have hA72 := hI5.pk1 hI5 hX71
   refine ykeep [0, 1, 9, 10, 27, 28, 29] (f' := [(0, pX t), (1, .string s), (9, iX ((s).size : Int)), (10, iX ((k : Nat) : Int)), (27, .slice none an39 ac40), (28, iX ((an39 : Nat) : Int)), (29, iX 0)]) <| x_loop (σ := Nat) (fun j => [(0, pX t), (1, .string s), (9, iX ((s).size : Int)), (10, iX ((k : Nat) : Int)), (27, .slice none an39 ac40), (28, iX ((an39 : Nat) : Int)), (29, iX ((j : Nat) : Int))]) (fun j v => j ≤ an39 ∧ (TermAt v t ((X48.2.take j).foldl actT T68) (more F2 w60 v) ∧ Ch F2 w60 v)) (fun j => an39 - j) 0 rfl ?_ ?_
   ·exact ⟨Nat.zero_le _, (TermAt.eq' hA72 rfl), hX71⟩
   intro j w73 hI74 K75 hL76
   obtain ⟨hj, hN77, hX78⟩ := hI74
   have hL83 : Lim W H ((X48.2.take j).foldl actT T68) := (lim_acts hL67 _)
   generalize hE83 : ((X48.2.take j).foldl actT T68) = T83 at hN77 hL83
   have hM83 := hL83
   have hla83 := hM83.all
   obtain ⟨g83, o83, ba83, bn83, bc83, pa83, pn83, pc83, F183, F283, FB83, FP83, hI82⟩ := hN77
   obtain ⟨gv83, hgd84⟩ := hI82.g1.head
   have htg85 : Df t g83 := fun e => hI82.t1 (e ▸ hI82.g1.inF)
   refine ysr <| yp 1 [] .z <| ye <| ys <| yc (rL ((j : Nat) : Int) ((an39 : Nat) : Int)) (fun hC86 => ?_) fun hC86 => ?_
   ·exfalso; omega
   have hjn : j = an39 := by omega
   have hX87 := Ch.on hX78 (Ch.refl (fun j => j = t) w73) hFt2
   have hA88 := hI82.pk2 (Ch.refl (fun j => j = t) w73) hI5 hX87
   have hN89 := hA88.mono (more_in hF2in (Ch.size hcw2) (Ch.size hX87)) (hI.moreOk (Nat.le_trans (Ch.size hcw2) (Ch.size hX87)))
   have hX90 := ch_in hcw2 hF2in hX87
   have hL92 : Lim W H T83 := hL83
   generalize hE92 : T83 = T92 at hN89 hL92
   have hM92 := hL92
   have hla92 := hM92.all
   obtain ⟨g92, o92, ba92, bn92, bc92, pa92, pn92, pc92, F192, F292, FB92, FP92, hI91⟩ := hN89
   obtain ⟨gv92, hgd93⟩ := hI91.g1.head
   have htg94 : Df t g92 := fun e => hI91.t1 (e ▸ hI91.g1.inF)
   refine x_exit (eS (then_exit (block_exit (nB (nS ?_)))))
   refine x_region <| yp 2 [] (.q6 (((k : Nat) : Int) + 1) .z) ?_
   have hX95 := Ch.on hX90 (Ch.refl (fun j => j = t) w73) hFt
   have hA96 := hI91.pk2 (Ch.refl (fun j => j = t) w73) hI hX95
   refine yE (fun a ha => hL15 (k + 1) _ ⟨(by omega), (TermAt.eq' hA96 (by subst hE92; subst hE83; subst hE68; subst hE21; show feedT _ _ = _; unfold feedT; rw [hX49, hjn, ← hnl, List.take_length])), hX95⟩ (by show s.size - (k + 1) < s.size - k; omega) a (ha.kp [0, 1, 9, 10]))
  have hnl : X48.2.length = an39 := hac66.len
  have hX97 := hI5.cht (Ch.refl (fun j => j = t) w60)
  have hA98 := hI5.pk1 hI5 hX97
  refine ykeep [0, 1, 9, 10, 27, 28, 29] (f' := [(0, pX t), (1, .string s), (9, iX ((s).size : Int)), (10, iX ((k : Nat) : Int)), (27, .slice (some ⟨ab, 0, none⟩) an39 ac40), (28, iX ((an39 : Nat) : Int)), (29, iX 0)]) <| x_loop (σ := Nat) (fun j => [(0, pX t), (1, .string s), (9, iX ((s).size : Int)), (10, iX ((k : Nat) : Int)), (27, .slice (some ⟨ab, 0, none⟩) an39 ac40), (28, iX ((an39 : Nat) : Int)), (29, iX ((j : Nat) : Int))]) (fun j v => j ≤ an39 ∧ (TermAt v t ((X48.2.take j).foldl actT T68) (more F2 w60 v) ∧ Ch F2 w60 v)) (fun j => an39 - j) 0 rfl ?_ ?_
  ·exact ⟨Nat.zero_le _, (TermAt.eq' hA98 rfl), hX97⟩
  intro j w99 hI100 K101 hL102
  obtain ⟨hj, hN103, hX104⟩ := hI100
  have hT106 := lt_ch hX104 hT65 (fun b hb => hI5.hi b hb)
  have hac107 := hac66.ch hX104 (fun b hb h => hKF b hb h)
  have hL109 : Lim W H ((X48.2.take j).foldl actT T68) := (lim_acts hL67 _)
  generalize hE109 : ((X48.2.take j).foldl actT T68) = T109 at hN103 hL109
  have hM109 := hL109
  have hla109 := hM109.all
  obtain ⟨g109, o109, ba109, bn109, bc109, pa109, pn109, pc109, F1109, F2109, FB109, FP109, hI108⟩ := hN103
  obtain ⟨gv109, hgd110⟩ := hI108.g1.head
  have htg111 : Df t g109 := fun e => hI108.t1 (e ▸ hI108.g1.inF)
  refine ysr <| yp 1 [] .z <| ye <| ys <| yc (rL ((j : Nat) : Int) ((an39 : Nat) : Int)) (fun hC112 => ?_) fun hC112 => ?_
  ·obtain ⟨ac, ao, an, cc, hac0, hVa, hk0, hk1, hk2, hk3, hk4, hk5⟩ := hac107.at (j := j) (by omega)
   have hok := hfok.2 ac (List.mem_of_getElem? hac0)
   refine yk <| ys <| x_block <| ysr <| yp 2 [] (.i ((j : Nat) : Int) (an39) (.m hk0 (.m hk1 (.m hk2 (.m hk3 (.m hk4 (.m hk5 (.e .z)))))))) <| yo (yN [iX 0, rX 0, uX 0, .string ByteArray.empty, .slice none 0 0, .string ByteArray.empty] 73 fun w113 b114 hb115 hz116 hB117 hc118 => ?_)
   have hlo119 : w99.heap.size ≤ b114 := by rw [hb115]; exact Ch.size (Ch.refl (fun j => j = t) w99)
   have hS120 := Ch.trans (Ch.refl (fun j => j = t) w99) hc118 eZ
   have hT121 := lt_ch hc118 hT106 (fun _ h => h.elim)
   have ht123 := hI108.blk.ch hc118 id
   have hac125 := hVa.ch hc118 iZ
   refine yo (yS hB117 fun w126 hB127 hc128 => ?_)
   have hS129 := Ch.trans hS120 hc128 (fun i hi (h : i = b114) => by omega)
   have hT130 := lt_ch hc128 hT121 (fun b (h : b = b114) => by have := hI.hi t hFt; have := hI108.blk.lt; omega)
   have ht132 := ht123.ch hc128 (fun (h : t = b114) => by have := hI108.blk.lt; omega)
   have hac134 := hac125.ch hc128 (fun b hb (h : b = b114) => by have := hKlt b hb; have := Ch.size hX104; omega)
   replace hB127 : Blk w126 b114 [iX ac.kind, rX ac.rune, uX ac.last, .string ac.marks, .slice (ao.map at0) an cc, .string ac.text] _ := Blk.to hB127 (by kernel_rfl)
   refine ye <| x_region <| yp 2 [] (.a (hB127.cs 0 6) .z) ?_
   have hI136 := hI108.scalar (T' := T109) hS129 ht132 rfl rfl rfl rfl
   have hX137 := Ch.on hX104 hS129 hFt2
   have hA138 := hI136.pk2 hS129 hI5 hX137
   have hVb135 := hac134.mono (K' := fun b => ¬ more F2 w60 w126 b ∧ b < w126.heap.size) (fun b hb => ⟨fun h => h.elim (hKF b hb) (fun h => by have := hKlt b hb; omega), by have := hKlt b hb; have := Ch.size hX137; omega⟩)
   have hI139 := hI108.scalar (T' := T109) hS129 ht132 rfl rfl rfl rfl
   have hX140 := Ch.on hX104 hS129 hFt2
   have hA141 := hI139.pk2 hS129 hI5 hX140
   refine yo (yQ (act_at hA141 hT130 hL109  hVb135 (by have := hok.n; have := hVb135.2.1; omega) hok.b (by have := hok.t; omega)) ?_)
   rintro w147 ⟨hB142, hc143⟩
   obtain ⟨hN144, hX145⟩ := TermAt.next hA5 hX140 hc143 hB142
   have hL150 : Lim W H (actT T109 ac) := (lim_act hL109 ac)
   generalize hE150 : (actT T109 ac) = T150 at hN144 hL150
   have hM150 := hL150
   have hla150 := hM150.all
   obtain ⟨g150, o150, ba150, bn150, bc150, pa150, pn150, pc150, F1150, F2150, FB150, FP150, hI146⟩ := hN144
   obtain ⟨gv150, hgd151⟩ := hI146.g1.head
   have htg152 : Df t g150 := fun e => hI146.t1 (e ▸ hI146.g1.inF)
   refine yE (nB (nS ?_))
   refine x_region <| yp 2 [] (.q6 (((j : Nat) : Int) + 1) .z) ?_
   have hX153 := Ch.on hX145 (Ch.refl (fun j => j = t) w147) hFt2
   have hA154 := hI146.pk2 (Ch.refl (fun j => j = t) w147) hI5 hX153
   refine yE (fun a ha => hL102 (j + 1) _ ⟨(by omega), (TermAt.eq' hA154 (by subst hE150; subst hE109; exact acts_next hac0 _)), hX153⟩ (by show an39 - (j + 1) < an39 - j; omega) a (ha.kp [0, 1, 9, 10, 27, 28, 29]))
  have hjn : j = an39 := by omega
  have hX155 := Ch.on hX104 (Ch.refl (fun j => j = t) w99) hFt2
  have hA156 := hI108.pk2 (Ch.refl (fun j => j = t) w99) hI5 hX155
  have hN157 := hA156.mono (more_in hF2in (Ch.size hcw2) (Ch.size hX155)) (hI.moreOk (Nat.le_trans (Ch.size hcw2) (Ch.size hX155)))
  have hX158 := ch_in hcw2 hF2in hX155
  have hL160 : Lim W H T109 := hL109
  generalize hE160 : T109 = T160 at hN157 hL160
  have hM160 := hL160
  have hla160 := hM160.all
  obtain ⟨g160, o160, ba160, bn160, bc160, pa160, pn160, pc160, F1160, F2160, FB160, FP160, hI159⟩ := hN157
  obtain ⟨gv160, hgd161⟩ := hI159.g1.head
  have htg162 : Df t g160 := fun e => hI159.t1 (e ▸ hI159.g1.inF)
  refine x_exit (eS (then_exit (block_exit (nB (nS ?_)))))
  refine x_region <| yp 2 [] (.q6 (((k : Nat) : Int) + 1) .z) ?_
  have hX163 := Ch.on hX158 (Ch.refl (fun j => j = t) w99) hFt
  have hA164 := hI159.pk2 (Ch.refl (fun j => j = t) w99) hI hX163
  refine yE (fun a ha => hL15 (k + 1) _ ⟨(by omega), (TermAt.eq' hA164 (by subst hE160; subst hE109; subst hE68; subst hE21; show feedT _ _ = _; unfold feedT; rw [hX49, hjn, ← hnl, List.take_length])), hX163⟩ (by show s.size - (k + 1) < s.size - k; omega) a (ha.kp [0, 1, 9, 10]))
 have hkn : k = s.size := by omega
 refine x_exit (eS (then_exit (block_exit (yR0' ?_))))
 have hX165 := Ch.on hX17 (Ch.refl (fun j => j = t) w12) hFt
 have hA166 := hI20.pk2 (Ch.refl (fun j => j = t) w12) hI hX165
 subst hE21
 subst hkn
 exact ⟨rfl, hA166, hX165⟩
end Go.Proofs.YteoejhjfbfacdaaDoor.X
namespace Go.Proofs.YteoejhjfbfacdaaDoor.X
open Go Go.RowKit Go.Proofs.YteoejhjfbfacdaaDoor
theorem rows_cell {w : World} {b off : Nat} {rows : List Row} (h : Rd w (some ⟨b, off, none⟩) (rows.map Row.val)) {k : Nat} {x : Row} (hx : rows[k]? = some x) : w.cell? ⟨b, off + ((k : Nat) : Int).toNat * 1, none⟩ = some x.val := by
 rw [Int.toNat_natCast, Nat.mul_one]
 exact rd_at h k _ (by rw [List.getElem?_map, hx]; rfl)
end Go.Proofs.YteoejhjfbfacdaaDoor.X


namespace Go.Proofs.YteoejhjfbfacdaaDoor.X
open Go Go.RowKit Go.Proofs.YteoejhjfbfacdaaDoor
def Fine (T : TS) : Prop := (∃ W H, Lim W H T) ∧ T.parser.lim
theorem fine_start (p1 p2 : Int) : Fine (startT zeroT p1 p2) := ⟨⟨_, _, lim_start zeroT p1 p2 (by decide)⟩, plim_at 0⟩
theorem fine_write {T : TS} (h : Fine T) (s : ByteArray) : Fine (writeT T s) := by
 obtain ⟨⟨W, H, h⟩, hp⟩ := h
 exact ⟨⟨W, H, lim_write h s _⟩, plim_write hp s _⟩
theorem fine_take {T : TS} (h : Fine T) : Fine ({ T with reply := ByteArray.empty } : TS) := by
 obtain ⟨⟨W, H, h⟩, hp⟩ := h
 exact ⟨⟨W, H, { h with rp := Nat.zero_le _ }⟩, hp⟩
structure Sys (w0 w : World) (bs : List (Nat × List Value × TypeId)) (ts : List (Nat × TS)) : Prop where
 ch : Ch (fun _ => False) w0 w
 lt : LT w
 top : gTop ≤ w0.heap.size
 blk : ∀ (i : Nat) x, bs[i]? = some x → Blk w x.1 x.2.1 x.2.2
 lo : ∀ (i : Nat) x, bs[i]? = some x → w0.heap.size ≤ x.1
 df : ∀ (i j : Nat) x y, bs[i]? = some x → bs[j]? = some y → i ≠ j → x.1 ≠ y.1
 tm : ∃ F : Nat → Nat → Prop, (∀ (i : Nat) x, ts[i]? = some x → TermAt w x.1 x.2 (F i) ∧ Fine x.2) ∧ (∀ i j, i ≠ j → ∀ b, F i b → ¬ F j b) ∧ (∀ i b, F i b → w0.heap.size ≤ b ∧ b < w.heap.size) ∧ ∀ (i j : Nat) x, bs[i]? = some x → ¬ F j x.1
section
variable {w0 w w' : World} {bs : List (Nat × List Value × TypeId)} {ts : List (Nat × TS)}
theorem Sys.start (h : LT w) (h7 : gTop ≤ w.heap.size) : Sys w w [] [] := ⟨Ch.refl _ _, h, h7, fun i x e => by simp at e, fun i x e => by simp at e, fun i j x y e => by simp at e, fun _ _ => False, fun i x e => by simp at e, fun _ _ _ _ h => h.elim, fun _ _ h => h.elim, fun _ _ _ _ h => h.elim⟩
theorem Sys.same (h : Sys w0 w bs ts) (hc : Ch (fun _ => False) w w') : Sys w0 w' bs ts := by
 obtain ⟨F, h1, h2, h3, h4⟩ := h.tm
 exact ⟨h.ch.trans hc (fun _ _ h => h), lt_ch hc h.lt (fun _ h => h.elim), h.top, fun i x e => (h.blk i x e).ch hc (fun h => h), h.lo, h.df, F, fun i x e => ⟨(h1 i x e).1.ch hc (fun _ _ h => h), (h1 i x e).2⟩, h2, fun i b hb => ⟨(h3 i b hb).1, Nat.lt_of_lt_of_le (h3 i b hb).2 hc.size⟩, h4⟩
theorem Sys.box (h : Sys w0 w bs ts) (hc : Ch (fun _ => False) w w') {b : Nat} {vs : List Value} {ty : TypeId} (hb : Blk w' b vs ty) (hz : w.heap.size ≤ b) : Sys w0 w' (bs ++ [(b, vs, ty)]) ts := by
 have h' := h.same hc
 obtain ⟨F, h1, h2, h3, h4⟩ := h.tm
 obtain ⟨F', g1, g2, g3, g4⟩ := h'.tm
 have one : ∀ i x, (bs ++ [(b, vs, ty)])[i]? = some x → bs[i]? = some x ∨ (i = bs.length ∧ x = (b, vs, ty)) := fun i x e => by
  rcases Nat.lt_or_ge i bs.length with hi | hi
  ·rw [List.getElem?_append_left hi] at e; exact .inl e
  ·rw [List.getElem?_append_right hi] at e
   rcases Nat.eq_zero_or_pos (i - bs.length) with h0 | h0
   ·rw [h0] at e; exact .inr ⟨by omega, (Option.some.inj e).symm⟩
   ·rw [List.getElem?_eq_none (by simp only [List.length_cons, List.length_nil]; omega)] at e; cases e
 refine ⟨h'.ch, h'.lt, h'.top, fun i x e => ?_, fun i x e => ?_, fun i j x y e e' hne => ?_, F, fun i x e => ⟨(h1 i x e).1.ch hc (fun _ _ h => h), (h1 i x e).2⟩, h2, fun i b hb => ⟨(h3 i b hb).1, Nat.lt_of_lt_of_le (h3 i b hb).2 hc.size⟩, fun i j x e => ?_⟩
 ·rcases one i x e with e | ⟨_, rfl⟩
  ·exact h'.blk i x e
  ·exact hb
 ·rcases one i x e with e | ⟨_, rfl⟩
  ·exact h.lo i x e
  ·have := h.ch.size; dsimp only; omega
 ·rcases one i x e with e1 | ⟨h1, rfl⟩
  ·rcases one j y e' with e2 | ⟨h2, rfl⟩
   ·exact h.df i j x y e1 e2 hne
   ·have := (h.blk i x e1).lt; dsimp only; omega
  ·rcases one j y e' with e2 | ⟨h2, rfl⟩
   ·have := (h.blk j y e2).lt; dsimp only; omega
   ·omega
 ·rcases one i x e with e | ⟨_, rfl⟩
  ·exact h4 i j x e
  ·exact fun hf => by have := (h3 j b hf).2; omega
theorem Sys.set (h : Sys w0 w bs ts) (i : Nat) {b : Nat} {vs vs' : List Value} {ty : TypeId} (hi : bs[i]? = some (b, vs, ty)) (hc : Ch (fun j => j = b) w w') (hb : Blk w' b vs' ty) : Sys w0 w' (bs.set i (b, vs', ty)) ts := by
 obtain ⟨F, h1, h2, h3, h4⟩ := h.tm
 have hlo := h.lo i _ hi
 have hlen : i < bs.length := (List.getElem?_eq_some_iff.1 hi).1
 have key : ∀ j x, (bs.set i (b, vs', ty))[j]? = some x → (j = i ∧ x = (b, vs', ty)) ∨ (j ≠ i ∧ bs[j]? = some x) := fun j x e => by
  by_cases hj : j = i
  ·subst hj; rw [List.getElem?_set_self hlen] at e; exact .inl ⟨rfl, (Option.some.inj e).symm⟩
  ·rw [List.getElem?_set_ne (fun h => hj h.symm)] at e; exact .inr ⟨hj, e⟩
 have nF : ∀ j, ¬ F j b := fun j => h4 i j _ hi
 refine ⟨h.ch.trans hc (fun k hk e => by dsimp only at hlo; omega), lt_ch hc h.lt (fun k e => by have := h.top; dsimp only at hlo; omega), h.top, fun j x e => ?_, fun j x e => ?_, fun j k x y e e' hne => ?_, F, fun j x e => ⟨(h1 j x e).1.ch hc (fun k hk e' => nF j (e' ▸ hk)), (h1 j x e).2⟩, h2, fun j k hk => ⟨(h3 j k hk).1, Nat.lt_of_lt_of_le (h3 j k hk).2 hc.size⟩, fun j k x e => ?_⟩
 ·rcases key j x e with ⟨_, rfl⟩ | ⟨hj, e⟩
  ·exact hb
  ·exact (h.blk j x e).ch hc (h.df j i x _ e hi hj)
 ·rcases key j x e with ⟨_, rfl⟩ | ⟨hj, e⟩
  ·exact hlo
  ·exact h.lo j x e
 ·rcases key j x e with ⟨h5, rfl⟩ | ⟨hj, e⟩
  ·rcases key k y e' with ⟨h6, rfl⟩ | ⟨hk, e'⟩
   ·omega
   ·exact h.df i k (b, vs, ty) y hi e' (by omega)
  ·rcases key k y e' with ⟨h6, rfl⟩ | ⟨hk, e'⟩
   ·exact h.df j i x (b, vs, ty) e hi hj
   ·exact h.df j k x y e e' hne
 ·rcases key j x e with ⟨_, rfl⟩ | ⟨hj, e⟩
  ·exact nF k
  ·exact h4 j k x e
theorem Sys.pre {bs' : List (Nat × List Value × TypeId)} (h : Sys w0 w (bs ++ bs') ts) : Sys w0 w bs ts := by
 obtain ⟨F, h1, h2, h3, h4⟩ := h.tm
 have key : ∀ (i : Nat) x, bs[i]? = some x → (bs ++ bs')[i]? = some x := fun i x e => by rw [List.getElem?_append_left (List.getElem?_eq_some_iff.1 e).1]; exact e
 exact ⟨h.ch, h.lt, h.top, fun i x e => h.blk i x (key i x e), fun i x e => h.lo i x (key i x e), fun i j x y e e' => h.df i j x y (key i x e) (key j y e'), F, h1, h2, h3, fun i j x e => h4 i j x (key i x e)⟩
theorem Sys.new (h : Sys w0 w bs ts) (p1 p2 : Int) : Calls Tryd.prog 11 [.int .i64 p1, .int .i64 p2].toArray w fun e w' => ∃ t, e = .returned (.pointer (some ⟨t, 0, none⟩)) ∧ Sys w0 w' bs (ts ++ [(t, startT zeroT p1 p2)]) ∧ Ch (fun _ => False) w w' := by
 refine (tnew_any p1 p2 w h.lt (Nat.le_trans h.top h.ch.size)).mono fun e w' ⟨t, he, hA, hc⟩ => ⟨t, he, ?_, hc⟩
 obtain ⟨F, h1, h2, h3, h4⟩ := h.tm
 have h' := h.same hc
 have hz := hc.size
 have hz0 := h.ch.size
 have ht : TermAt w' t (startT zeroT p1 p2) (fun b => w.heap.size ≤ b ∧ b < w'.heap.size) := hA
 refine ⟨h'.ch, h'.lt, h'.top, h'.blk, h'.lo, h'.df, fun i b => if i = ts.length then w.heap.size ≤ b ∧ b < w'.heap.size else i < ts.length ∧ F i b, fun i x e => ?_, fun i j hij b hb hb' => ?_, fun i b hb => ?_, fun i j x e hb => ?_⟩
 ·rcases Nat.lt_or_ge i ts.length with hi | hi
  ·rw [List.getElem?_append_left hi] at e
   refine ⟨?_, (h1 i x e).2⟩
   have e2 : (fun b => if i = ts.length then w.heap.size ≤ b ∧ b < w'.heap.size else i < ts.length ∧ F i b) = F i := by
    funext b; rw [if_neg (by omega)]; exact propext ⟨fun h => h.2, fun h => ⟨hi, h⟩⟩
   show TermAt w' x.1 x.2 (fun b => if i = ts.length then w.heap.size ≤ b ∧ b < w'.heap.size else i < ts.length ∧ F i b)
   rw [e2]
   exact (h1 i x e).1.ch hc (fun _ _ h => h)
  ·rw [List.getElem?_append_right hi] at e
   rcases Nat.eq_zero_or_pos (i - ts.length) with h0 | h0
   ·rw [h0] at e
    obtain rfl := (Option.some.inj e).symm
    obtain rfl : i = ts.length := by omega
    simp only [if_true]
    exact ⟨ht, fine_start p1 p2⟩
   ·rw [List.getElem?_eq_none (by simp only [List.length_cons, List.length_nil]; omega)] at e; cases e
 ·dsimp only at hb hb'
  split at hb
  ·split at hb'
   ·omega
   ·have := (h3 j b hb'.2).2; omega
  ·split at hb'
   ·have := (h3 i b hb.2).2; omega
   ·exact h2 i j hij b hb.2 hb'.2
 ·dsimp only at hb
  split at hb
  ·omega
  ·have := h3 i b hb.2; omega
 ·dsimp only at hb
  split at hb
  ·have := (h.blk i x e).lt; omega
  ·exact h4 i j x e hb.2
theorem Sys.step (h : Sys w0 w bs ts) {i t : Nat} {T T' : TS} (hi : ts[i]? = some (t, T)) {k : FuncId} {args : Array Value} {v : Value}
  (hk : ∀ F, TermAt w t T F → LT w → Fine T → Calls Tryd.prog k args w fun e w' => e = .returned v ∧ TermAt w' t T' (more F w w') ∧ Ch F w w') (hf : Fine T → Fine T') :
  Calls Tryd.prog k args w fun e w' => e = .returned v ∧ Sys w0 w' bs (ts.set i (t, T')) := by
 obtain ⟨F, h1, h2, h3, h4⟩ := h.tm
 have hlen : i < ts.length := (List.getElem?_eq_some_iff.1 hi).1
 refine (hk (F i) (h1 i _ hi).1 h.lt (h1 i _ hi).2).mono fun e w' ⟨he, hA, hc⟩ => ⟨he, ?_⟩
 have hz := hc.size
 refine ⟨Ch.trans h.ch hc (fun b hb hb' => ?_), lt_ch hc h.lt (fun b hb => by have := h3 i b hb; have := h.top; omega), h.top, fun j x e => (h.blk j x e).ch hc (h4 j i x e), h.lo, h.df, fun j b => if j = i then more (F i) w w' b else F j b, fun j x e => ?_, fun j k hjk b hb hb' => ?_, fun j b hb => ?_, fun j k x e hb => ?_⟩
 ·have := (h3 i b hb').1; omega
 ·by_cases hj : j = i
  ·subst hj
   rw [List.getElem?_set_self hlen] at e
   obtain rfl := (Option.some.inj e).symm
   simp only [if_true]
   exact ⟨hA, hf (h1 j _ hi).2⟩
  ·rw [List.getElem?_set_ne (fun h => hj h.symm)] at e
   simp only [if_neg hj]
   exact ⟨(h1 j x e).1.ch hc (fun b hb => h2 j i hj b hb), (h1 j x e).2⟩
 ·dsimp only at hb hb'
  split at hb
  ·rename_i hji
   subst hji
   rw [if_neg (fun h => hjk h.symm)] at hb'
   rcases hb with hb | hb
   ·exact h2 j k hjk b hb hb'
   ·have := (h3 k b hb').2; omega
  ·split at hb'
   ·rename_i hji hki
    subst hki
    rcases hb' with hb' | hb'
    ·exact h2 j k hjk b hb hb'
    ·have := (h3 j b hb).2; omega
   ·exact h2 j k hjk b hb hb'
 ·dsimp only at hb
  have hz0 := h.ch.size
  split at hb
  ·rcases hb with hb | hb
   ·have := h3 i b hb; omega
   ·omega
  ·have := h3 j b hb; omega
 ·dsimp only at hb
  split at hb
  ·rcases hb with hb | hb
   ·exact h4 j i x e hb
   ·have := (h.blk j x e).lt; omega
  ·exact h4 j k x e hb
theorem Sys.write (h : Sys w0 w bs ts) {i t : Nat} {T : TS} (hi : ts[i]? = some (t, T)) (s : ByteArray) (hs : s.size ≤ 1000000) : Calls Tryd.prog 12 [.pointer (some ⟨t, 0, none⟩), .string s].toArray w fun e w' => e = .returned (.tuple #[]) ∧ Sys w0 w' bs (ts.set i (t, writeT T s)) :=
 h.step hi (fun F hA hl hf => by obtain ⟨⟨W, H, hL⟩, hp⟩ := hf; exact write_at hA hl hL hp s hs) (fun hf => fine_write hf s)
theorem Sys.take (h : Sys w0 w bs ts) {i t : Nat} {T : TS} (hi : ts[i]? = some (t, T)) : Calls Tryd.prog 20 [.pointer (some ⟨t, 0, none⟩)].toArray w fun e w' => e = .returned (.string T.reply) ∧ Sys w0 w' bs (ts.set i (t, { T with reply := ByteArray.empty })) :=
 h.step hi (fun F hA _ _ => take_at hA) fine_take
theorem Sys.at (h : Sys w0 w bs ts) {i t : Nat} {T : TS} (hi : ts[i]? = some (t, T)) : ∃ F, TermAt w t T F := by
 obtain ⟨F, h1, _⟩ := h.tm
 exact ⟨_, (h1 i _ hi).1⟩
theorem Sys.cell (h : Sys w0 w bs ts) {i t : Nat} {T : TS} (hi : ts[i]? = some (t, T)) (c : Nat) {v : Value} (hv : ∀ g o bk ps, (T.vals g o bk ps)[c]? = some v) : w.cell? ⟨t, c, none⟩ = some v := by
 obtain ⟨F, g, o, ba, bn, bc, pa, pn, pc, F1, F2, FB, FP, hI⟩ := h.at hi
 exact (hI.blk.cell c).trans (hv _ _ _ _)
theorem Sys.grid (h : Sys w0 w bs ts) {i t : Nat} {T : TS} (hi : ts[i]? = some (t, T)) : ∃ g F, w.cell? ⟨t, 0, none⟩ = some (.pointer (some ⟨g, 0, none⟩)) ∧ GridAt w g T.grid F := by
 obtain ⟨F, g, o, ba, bn, bc, pa, pn, pc, F1, F2, FB, FP, hI⟩ := h.at hi
 exact ⟨g, F1, (hI.blk.cell 0).trans rfl, hI.g1⟩
theorem Sys.other (h : Sys w0 w bs ts) {i t : Nat} {T : TS} (hi : ts[i]? = some (t, T)) : ∃ g F, w.cell? ⟨t, 1, none⟩ = some (.pointer (some ⟨g, 0, none⟩)) ∧ GridAt w g T.other F := by
 obtain ⟨F, g, o, ba, bn, bc, pa, pn, pc, F1, F2, FB, FP, hI⟩ := h.at hi
 exact ⟨o, F2, (hI.blk.cell 1).trans rfl, hI.g2⟩
theorem Sys.outs (h : Sys w0 w bs ts) {i t : Nat} {T : TS} (hi : ts[i]? = some (t, T)) : ∃ ba bn bc rows FB, w.cell? ⟨t, 97, none⟩ = some (.slice ba bn bc) ∧ bn = T.back.length ∧ LinesAt w ba bn rows FB ∧ rows.map Row.l = T.back ∧ (ba = none ∨ ∃ b off, ba = some ⟨b, off, none⟩) := by
 obtain ⟨F, g, o, ba, bn, bc, pa, pn, pc, F1, F2, FB, FP, hI⟩ := h.at hi
 obtain ⟨rows, hL, hm⟩ := hI.bk
 exact ⟨ba, bn, bc, rows, FB, (hI.blk.cell 97).trans (by kernel_rfl), by rw [← hm, List.length_map, hL.len], hL, hm, hI.bz⟩
theorem Fine.back {T : TS} (h : Fine T) : T.back.length ≤ 1000 := by obtain ⟨⟨W, H, h⟩, _⟩ := h; exact Nat.le_trans h.bk (by decide)
theorem Fine.params {T : TS} (h : Fine T) : T.parser.params.length ≤ 1000 := Nat.le_trans h.2.n (by decide)
end
end Go.Proofs.YteoejhjfbfacdaaDoor.X
namespace Go.Proofs.YteoejhjfbfacdaaDoor.X
open Go Go.RowKit Go.Proofs.YteoejhjfbfacdaaDoor
def fitT : TS := writeT (startT zeroT 3 2) (⟨#[27, 91, 50, 59, 51, 72, 120]⟩ : ByteArray)
theorem fit_facts : (atG fitT.grid 2 1).rune = 120 ∧ fitT.cursor.late = true ∧ fitT.grid.w = 3 ∧ fitT.grid.h = 2 ∧ fitT.other.h = 2 := by decide +kernel
set_option maxHeartbeats 4000000 in
theorem lawfit_any (w : World) (hT : LT w) (h7 : gTop ≤ w.heap.size) : Calls Tryd.prog 10 [].toArray w fun e w' => e = .returned (.bool true) ∧ Ch (fun _ => False) w w' := by
 have hS := Sys.start hT h7
 refine yA Tryd.func10 rfl <| ysr <| yp 1 [] .z <| ye <| ysr <| yo (yC (hS.new (3) (2)) ?_)
 rintro _ w13 ⟨t10, rfl, hS11, hc12⟩
 refine ⟨_, rfl, ?_⟩
 replace hS11 : Sys w w13 [] [(t10, (startT zeroT (3) (2)))] := hS11
 refine yp 2 [] .z <| ye <| ys <| ysr ?_
 obtain ⟨g14, F15, hg16, hG17⟩ := hS11.grid (i := 0) rfl
 obtain ⟨r18, rc19, rows20, hI21⟩ := hG17
 have hlenhI21 := hI21.len
 obtain ⟨g22, F23, hg24, hG25⟩ := hS11.other (i := 0) rfl
 obtain ⟨r26, rc27, rows28, hI29⟩ := hG25
 have hlenhI29 := hI29.len
 refine yp 16 [] (.l hg16 (.l hg24 .z)) <| ye <| ycf <| yk <| ysr <| yp 1 [] .z <| yo (yQ (hS11.write (i := 0) rfl (⟨#[27, 91, 50, 59, 51, 72, 120]⟩ : ByteArray) (by first | decide | omega)) fun w31 hS30 => ?_)
 replace hS30 : Sys w w31 [] [(t10, fitT)] := hS30
 refine ye <| ysr ?_
 obtain ⟨g32, F33, hg34, hG35⟩ := hS30.grid (i := 0) rfl
 obtain ⟨r36, rc37, rows38, hI39⟩ := hG35
 have hlenhI39 := hI39.len
 refine yp 4 [] (.l hg34 .z) <| yo (yQ (at_any _ _ _ (2) (1) _ hS30.lt.tb ⟨_, _, _, hI39⟩) fun w41 hc40 => ?_)
 have hS42 := hS30.same hc40
 have hg43 := cell_ch hc40 hg34 id
 have hI44 := hI39.ch hc40 iZ
 refine yp 8 [] .z <| yw [28] (rE (atG fitT.grid (2) (1)).rune 120) (fun hC45 => ?_) fun hC45 => ?_
 ·refine yp 15 [] (.l (v := .bool fitT.cursor.late) (hS42.cell (i := 0) (t := t10) (T := fitT) rfl 4 (fun _ _ _ _ => by kernel_rfl)) .z) <| yw [35] (rY fitT.cursor.late) (fun hC46 => ?_) fun hC46 => ?_
  ·refine yp 25 [] (.l hg43 (.l (hI44.head.c 0) .z)) <| yw [45] (rE fitT.grid.w 3) (fun hC47 => ?_) fun hC47 => ?_
   ·refine yp 36 [] (.l hg43 (.l (hI44.head.c 2) .z)) <| yw [56] (rE ((rows38.length : Nat) : Int) 2) (fun hC48 => ?_) fun hC48 => ?_
    ·obtain ⟨g49, F50, hg51, hG52⟩ := hS42.other (i := 0) rfl
     obtain ⟨r53, rc54, rows55, hI56⟩ := hG52
     have hlenhI56 := hI56.len
     refine yp 47 [] (.l hg51 (.l (hI56.head.c 2) .z)) <| ye <| x_ret (yR1 (.bool ((((rows55.length : Nat) : Int) : Int) == 2)) ?_)
     refine ⟨congrArg Ending.returned (congrArg Value.bool ?_), hS42.ch⟩
     obtain ⟨f1, f2, f3, f4, f5⟩ := fit_facts
     rw [beq_iff_eq]; omega
    exfalso; obtain ⟨f1, f2, f3, f4, f5⟩ := fit_facts; first | omega | (rw [f2] at hC48; cases hC48)
   exfalso; obtain ⟨f1, f2, f3, f4, f5⟩ := fit_facts; first | omega | (rw [f2] at hC47; cases hC47)
  exfalso; obtain ⟨f1, f2, f3, f4, f5⟩ := fit_facts; first | omega | (rw [f2] at hC46; cases hC46)
 exfalso; obtain ⟨f1, f2, f3, f4, f5⟩ := fit_facts; first | omega | (rw [f2] at hC45; cases hC45)
end Go.Proofs.YteoejhjfbfacdaaDoor.X

namespace Go.Proofs.YteoejhjfbfacdaaDoor.X
open Go Go.RowKit Go.Proofs.YteoejhjfbfacdaaDoor
def PS.gr (p : PS) : Prop := p.state = 0 → p = { atP 0 with utf := p.utf }
theorem writeN_app1 (T : TS) (s u : ByteArray) : ∀ k, k ≤ s.size → writeN T (s ++ u) k = writeN T s k
 | 0, _ => rfl
 | k + 1, h => by
  rw [writeN, writeN, writeN_app1 T s u k (by omega)]
  congr 1
  unfold bt
  simp only [Int.toNat_natCast]
  rw [dif_pos (show k < (s ++ u).size by rw [ByteArray.size_append]; omega), dif_pos (show k < s.size by omega), ByteArray.getElem_append_left (by omega)]
theorem writeN_app2 (T : TS) (s u : ByteArray) : ∀ k, k ≤ u.size → writeN T (s ++ u) (s.size + k) = writeN (writeT T s) u k
 | 0, _ => writeN_app1 T s u _ (Nat.le_refl _)
 | k + 1, h => by
  rw [← Nat.add_assoc, writeN, writeN, writeN_app2 T s u k (by omega)]
  congr 1
  unfold bt
  simp only [Int.toNat_natCast]
  rw [dif_pos (show s.size + k < (s ++ u).size by rw [ByteArray.size_append]; omega), dif_pos (show k < u.size by omega), ByteArray.getElem_append_right (by omega)]
  congr 2
  simp
theorem write_app (T : TS) (s u : ByteArray) : writeT T (s ++ u) = writeT (writeT T s) u := by
 rw [show writeT T (s ++ u) = writeN T (s ++ u) (s.size + u.size) by unfold writeT; rw [ByteArray.size_append]]
 exact writeN_app2 T s u _ (Nat.le_refl _)
end Go.Proofs.YteoejhjfbfacdaaDoor.X
namespace Go.Proofs.YteoejhjfbfacdaaDoor.X
open Go Go.RowKit Go.Proofs.YteoejhjfbfacdaaDoor
def plG (W H : Nat) (f : Nat → Cel) : Gr := ⟨(W : Int), (H : Int), (List.range H).map fun y => (List.range W).map fun x => f (y * W + x)⟩
def narC (c : Cel) : Prop := c.rune ≠ 0 ∧ wideB c.rune = false
theorem list_set_same {l : List Cel} {k : Nat} {c : Cel} (h : l[k]? = some c) : l.set k c = l := by
 apply List.ext_getElem?
 intro i
 by_cases e : k = i
 ·subst e
  have hk : k < l.length := (List.getElem?_eq_some_iff.1 h).1
  rw [List.getElem?_set_self hk, h]
 ·rw [List.getElem?_set_ne e]
theorem mend_nar {l : List Cel} (h : ∀ c ∈ l, narC c) : mend l = l := by
 have hg : ∀ k : Nat, k < l.length → l[k]? = some (mendC l (k : Int)) := fun k hk => by
  have e : gc l (k : Int) = l[k] := by simp [gc, List.getD, hk]
  have hc := h l[k] (List.getElem_mem hk)
  unfold mendC
  rw [e]
  have h1 := hc.1
  simp [h1, hc.2]
 have key : ∀ k, k ≤ l.length → mendTo l k = l := by
  intro k
  induction k with
  | zero => intro _; rfl
  | succ k ih =>
   intro hk
   rw [mendTo, ih (by omega), list_set_same (hg k (by omega))]
 exact key _ (Nat.le_refl _)
section
variable {W H : Nat} {f : Nat → Cel}
theorem plG_line {y : Int} (h0 : 0 ≤ y) (h1 : y < H) : gl (plG W H f) y = (List.range W).map fun x => f (y.toNat * W + x) := by
 have hy : y.toNat < H := by omega
 simp [gl, plG, List.getD, hy]
theorem pl_ix {W y x y' x' : Nat} (h : x < W) (h' : x' < W) : y * W + x = y' * W + x' ↔ y = y' ∧ x = x' := by
 constructor
 ·intro e
  have e1 : (y * W + x) / W = y := by rw [Nat.mul_comm, Nat.mul_add_div (by omega), Nat.div_eq_of_lt h, Nat.add_zero]
  have e2 : (y' * W + x') / W = y' := by rw [Nat.mul_comm, Nat.mul_add_div (by omega), Nat.div_eq_of_lt h', Nat.add_zero]
  have : y = y' := by rw [← e1, ← e2, e]
  subst this
  exact ⟨rfl, by omega⟩
 ·rintro ⟨rfl, rfl⟩; rfl
theorem plG_put {x y : Nat} (hx : x < W) (hy : y < H) {c : Cel} (hc : narC c) (hr : celB c = true) (hf : ∀ i, narC (f i)) : putG (plG W H f) (x : Int) (y : Int) c = plG W H (fun i => if i = y * W + x then c else f i) := by
 have ht : thereB (plG W H f) (x : Int) (y : Int) = true := there_iff.2 ⟨⟨by omega, by omega⟩, by show (x : Int) < (W : Int); omega, by show (y : Int) < (H : Int); omega⟩
 unfold putG
 rw [if_pos ⟨ht, hr⟩, plG_line (by omega) (by omega)]
 have e1 : putL (plG W H f).w ((List.range W).map fun x => f ((y : Int).toNat * W + x)) (x : Int) c = (List.range W).map fun i => if i = x then c else f (y * W + i) := by
  unfold putL
  rw [if_neg (by rw [hc.2]; simp)]
  simp only [Int.toNat_natCast]
  apply List.ext_getElem?
  intro i
  by_cases hi : i < W
  ·by_cases e : x = i
   ·subst e; rw [List.getElem?_set_self (by simpa using hx)]; simp [hx]
   ·rw [List.getElem?_set_ne e]
    simp [hi, show ¬ i = x by omega]
  ·rw [List.getElem?_eq_none (by simp; omega), List.getElem?_eq_none (by simp; omega)]
 rw [e1, mend_nar]
 ·unfold setG plG
  simp only [Gr.mk.injEq, true_and, Int.toNat_natCast]
  apply List.ext_getElem?
  intro j
  by_cases hj : j < H
  ·by_cases e : y = j
   ·subst e
    rw [List.getElem?_set_self (by simpa using hy)]
    simp only [List.getElem?_map, List.getElem?_range hy, Option.map_some, Option.some.injEq]
    refine List.map_congr_left fun i hi => ?_
    have hi' : i < W := by simpa using hi
    by_cases e2 : i = x
    ·rw [if_pos e2, if_pos (by rw [e2])]
    ·rw [if_neg e2, if_neg (fun h => e2 ((pl_ix hi' hx).1 h).2)]
   ·rw [List.getElem?_set_ne e]
    simp only [List.getElem?_map, List.getElem?_range hj, Option.map_some, Option.some.injEq]
    refine List.map_congr_left fun i hi => ?_
    have hi' : i < W := by simpa using hi
    rw [if_neg (fun h => e ((pl_ix hi' hx).1 h).1.symm)]
  ·rw [List.getElem?_eq_none (by simp; omega), List.getElem?_eq_none (by simp; omega)]
 ·intro d hd
  obtain ⟨i, _, rfl⟩ := List.mem_map.1 hd
  split
  ·exact hc
  ·exact hf _
end
theorem plG_new (w h : Int) : newG w h = plG (sideI w).toNat (sideI h).toNat fun _ => blankC sty0 := by
 have hw : 1 ≤ sideI w ∧ 1 ≤ sideI h := by unfold sideI; omega
 unfold newG plG
 simp only [Gr.mk.injEq]
 refine ⟨by omega, by omega, ?_⟩
 simp [List.map_const']
def usB (u v : US) : Bool := decide (u.b0 = v.b0) && decide (u.b1 = v.b1) && decide (u.b2 = v.b2) && decide (u.n = v.n)
theorem usB_eq {u v : US} (h : usB u v = true) : u = v := by
 obtain ⟨a, b, c, d⟩ := u
 obtain ⟨a', b', c', d'⟩ := v
 simp only [usB, Bool.and_eq_true, decide_eq_true_eq] at h
 obtain ⟨⟨⟨rfl, rfl⟩, rfl⟩, rfl⟩ := h
 rfl
theorem asc_all : ((List.range 95).all fun k => usB (feedU u0 (32 + (k : Int))).1 u0 && decide ((feedU u0 (32 + (k : Int))).2 = [32 + (k : Int)]) && rightB (32 + (k : Int)) && !wideB (32 + (k : Int)) && rightB (drawnI (32 + (k : Int))) && !wideB (drawnI (32 + (k : Int))) && decide (drawnI (32 + (k : Int)) ≠ 0)) = true := by decide +kernel
theorem asc_one {c : Int} (h : 32 ≤ c ∧ c ≤ 126) : feedU u0 c = (u0, [c]) ∧ rightB c = true ∧ wideB c = false ∧ rightB (drawnI c) = true ∧ wideB (drawnI c) = false ∧ drawnI c ≠ 0 := by
 have := List.all_eq_true.1 asc_all (c - 32).toNat (List.mem_range.2 (by omega))
 rw [show 32 + (((c - 32).toNat : Nat) : Int) = c by omega] at this
 simp only [Bool.and_eq_true, decide_eq_true_eq, Bool.not_eq_true'] at this
 obtain ⟨⟨⟨⟨⟨⟨h1, h2⟩, h3⟩, h4⟩, h5⟩, h6⟩, h7⟩ := this
 exact ⟨Prod.ext (usB_eq h1) h2, h3, h4, h5, h6, h7⟩
theorem feed_asc {T : TS} (h : T.parser = atP 0) {c : Int} (hc : 32 ≤ c ∧ c ≤ 126) : feedT T c = printT T c := by
 have e : feedP T.parser c = (atP 0, [acP c]) := by
  rw [h]
  have hp : feedP (atP 0) c = groundP (atP 0) c := rfl
  rw [hp]
  unfold groundP
  rw [if_pos (by omega), if_neg (by omega), if_neg (by omega), (asc_one hc).1]
  rfl
 unfold feedT
 rw [e]
 show actT { T with parser := atP 0 } (acP c) = _
 have e2 : ({ T with parser := atP 0 } : TS) = T := by rw [← h]
 rw [e2]; rfl
theorem blank_nar : narC (blankC sty0) := ⟨by decide, by decide +kernel⟩
end Go.Proofs.YteoejhjfbfacdaaDoor.X
namespace Go.Proofs.YteoejhjfbfacdaaDoor.X
open Go Go.RowKit Go.Proofs.YteoejhjfbfacdaaDoor
abbrev tStr : TypeId := 9
def oB (o : Option Nat) (vs : List Value) : List (Nat × List Value × TypeId) := match o with
 | none => []
 | some b => [(b, vs, tStr)]
structure OwS (o : Option Nat) (n oc : Nat) (xs rest : List Value) : Prop where
 len : xs.length = n
 le : n ≤ oc
 mx : oc ≤ maxLen
 no : o = none → n = 0 ∧ oc = 0
 rest : rest.length = oc - n
section
variable {w0 w w' : World} {bs os : List (Nat × List Value × TypeId)} {ts : List (Nat × TS)}
theorem Sys.pick (h : Sys w0 w bs ts) {cs : List (Nat × List Value × TypeId)} (f : Nat → Nat) (hf : ∀ (i : Nat) x, cs[i]? = some x → bs[f i]? = some x) (hi : ∀ i j, i < cs.length → j < cs.length → i ≠ j → f i ≠ f j) : Sys w0 w cs ts := by
 obtain ⟨F, h1, h2, h3, h4⟩ := h.tm
 have lt : ∀ (i : Nat) x, cs[i]? = some x → i < cs.length := fun i x e => (List.getElem?_eq_some_iff.1 e).1
 exact ⟨h.ch, h.lt, h.top, fun i x e => h.blk _ x (hf i x e), fun i x e => h.lo _ x (hf i x e), fun i j x y e e' hne => h.df _ _ x y (hf i x e) (hf j y e') (hi i j (lt i x e) (lt j y e') hne), F, h1, h2, h3, fun i j x e => h4 _ j x (hf i x e)⟩
theorem Sys.boxO (h : Sys w0 w (bs ++ os) ts) (hc : Ch (fun _ => False) w w') {b : Nat} {vs : List Value} {ty : TypeId} (hb : Blk w' b vs ty) (hz : w.heap.size ≤ b) : Sys w0 w' ((bs ++ [(b, vs, ty)]) ++ os) ts := by
 refine (h.box hc hb hz).pick (fun i => if i < bs.length then i else if i = bs.length then bs.length + os.length else i - 1) (fun i x e => ?_) (fun i j hi hj hne => ?_)
 ·have hl := (List.getElem?_eq_some_iff.1 e).1
  simp only [List.length_append, List.length_cons, List.length_nil] at hl
  split
  ·rename_i h1
   rw [List.append_assoc, List.getElem?_append_left h1] at e ⊢
   exact e
  ·rename_i h1
   split
   ·rename_i h2
    subst h2
    rw [List.getElem?_append_left (by simp), List.getElem?_append_right (Nat.le_refl _), Nat.sub_self] at e
    rw [List.getElem?_append_right (by simp)]
    simpa using e
   ·rename_i h2
    rw [List.getElem?_append_right (by simp; omega)] at e
    rw [List.getElem?_append_left (by simp; omega), List.getElem?_append_right (by omega)]
    simp only [List.length_append, List.length_cons, List.length_nil] at e
    rw [show i - 1 - bs.length = i - (bs.length + (0 + 1)) by omega]
    exact e
 ·simp only [List.length_append, List.length_cons, List.length_nil] at hi hj
  split <;> split <;> (try split) <;> (try split) <;> omega
theorem Sys.preO {ex : List (Nat × List Value × TypeId)} (h : Sys w0 w ((bs ++ ex) ++ os) ts) : Sys w0 w (bs ++ os) ts := by
 refine h.pick (fun i => if i < bs.length then i else i + ex.length) (fun i x e => ?_) (fun i j hi hj hne => ?_)
 ·have hl := (List.getElem?_eq_some_iff.1 e).1
  split
  ·rename_i h1
   rw [List.getElem?_append_left h1] at e
   rw [List.append_assoc, List.getElem?_append_left h1]
   exact e
  ·rename_i h1
   rw [List.getElem?_append_right (by omega)] at e
   rw [List.getElem?_append_right (by simp; omega)]
   simp only [List.length_append]
   rw [show i + ex.length - (bs.length + ex.length) = i - bs.length by omega]
   exact e
 ·split <;> split <;> omega
theorem Sys.own {o : Option Nat} {n oc : Nat} {xs rest : List Value} (h : Sys w0 w (bs ++ oB o (xs ++ rest)) ts) (ho : OwS o n oc xs rest) : Own w tStr 1 o n oc xs :=
 ⟨by rw [ho.len, Nat.mul_one], ho.le, ho.mx, ho.no, fun g e => ⟨rest, by rw [ho.rest, Nat.mul_one], by subst e; exact h.blk bs.length (g, xs ++ rest, tStr) (by simp [oB])⟩⟩
theorem Sys.startO (h : Sys w0 w bs ts) : Sys w0 w (bs ++ oB none ([] ++ [])) ts := by simpa [oB] using h
theorem OwS.nil : OwS none 0 0 [] [] := ⟨rfl, Nat.le_refl _, Nat.zero_le _, fun _ => ⟨rfl, rfl⟩, rfl⟩
theorem Sys.grow1 {o : Option Nat} {vs : List Value} (h : Sys w0 w (bs ++ oB o vs) ts) (hc : Ch (fun b => o = some b) w w') {b' : Nat} {vs' : List Value} (hb : Blk w' b' vs' tStr) (hne : o = some b' ∨ w.heap.size ≤ b') : Sys w0 w' (bs ++ oB (some b') vs') ts := by
 obtain ⟨F, h1, h2, h3, h4⟩ := h.tm
 have hl : ∀ (i : Nat) x, bs[i]? = some x → (bs ++ oB o vs)[i]? = some x := fun i x e => by rw [List.getElem?_append_left (List.getElem?_eq_some_iff.1 e).1]; exact e
 have ho : ∀ b, o = some b → w0.heap.size ≤ b ∧ (∀ (i : Nat) x, bs[i]? = some x → x.1 ≠ b) ∧ ∀ j, ¬ F j b := fun b e => by
  have hi : (bs ++ oB o vs)[bs.length]? = some (b, vs, tStr) := by subst e; simp [oB]
  exact ⟨h.lo _ _ hi, fun i x e' => h.df i bs.length x _ (hl i x e') hi (Nat.ne_of_lt (List.getElem?_eq_some_iff.1 e').1), fun j => h4 _ j _ hi⟩
 have hb' : w0.heap.size ≤ b' ∧ (∀ (i : Nat) x, bs[i]? = some x → x.1 ≠ b') ∧ ∀ j, ¬ F j b' := by
  rcases hne with e | e
  ·exact ho b' e
  ·exact ⟨Nat.le_trans h.ch.size e, fun i x e' => by have := (h.blk i x (hl i x e')).lt; omega, fun j hf => by have := (h3 j b' hf).2; omega⟩
 have one : ∀ (i : Nat) x, (bs ++ [(b', vs', tStr)])[i]? = some x → bs[i]? = some x ∨ (i = bs.length ∧ x = (b', vs', tStr)) := fun i x e => by
  rcases Nat.lt_or_ge i bs.length with hi | hi
  ·rw [List.getElem?_append_left hi] at e; exact .inl e
  ·rw [List.getElem?_append_right hi] at e
   rcases Nat.eq_zero_or_pos (i - bs.length) with h0 | h0
   ·rw [h0] at e; exact .inr ⟨by omega, (Option.some.inj e).symm⟩
   ·rw [List.getElem?_eq_none (by simp only [List.length_cons, List.length_nil]; omega)] at e; cases e
 show Sys w0 w' (bs ++ [(b', vs', tStr)]) ts
 refine ⟨h.ch.trans hc (fun k hk e => by have := (ho k e).1; omega), lt_ch hc h.lt (fun k e => Nat.le_trans h.top (ho k e).1), h.top, fun i x e => ?_, fun i x e => ?_, fun i j x y e e' hne => ?_, F, fun i x e => ⟨(h1 i x e).1.ch hc (fun b hb e' => (ho b e').2.2 i hb), (h1 i x e).2⟩, h2, fun i b hb => ⟨(h3 i b hb).1, Nat.lt_of_lt_of_le (h3 i b hb).2 hc.size⟩, fun i j x e => ?_⟩
 ·rcases one i x e with e | ⟨_, rfl⟩
  ·exact (h.blk i x (hl i x e)).ch hc (fun e' => (ho _ e').2.1 i x e rfl)
  ·exact hb
 ·rcases one i x e with e | ⟨_, rfl⟩
  ·exact h.lo i x (hl i x e)
  ·exact hb'.1
 ·rcases one i x e with e1 | ⟨h1, rfl⟩
  ·rcases one j y e' with e2 | ⟨h2, rfl⟩
   ·exact h.df i j x y (hl i x e1) (hl j y e2) hne
   ·exact hb'.2.1 i x e1
  ·rcases one j y e' with e2 | ⟨h2, rfl⟩
   ·exact fun h => hb'.2.1 j y e2 h.symm
   ·omega
 ·rcases one i x e with e | ⟨_, rfl⟩
  ·exact h4 i j x (hl i x e)
  ·exact hb'.2.2 j
theorem Sys.grow {o o' : Option Nat} {n oc' : Nat} {xs zs rest : List Value} (h : Sys w0 w (bs ++ oB o (xs ++ rest)) ts) (ho : Own w' tStr 1 o' (n + 1) oc' zs) (hne : o' = o ∨ ∃ g, o' = some g ∧ w.heap.size ≤ g) (hp : 0 < n + 1 → ∃ g, o' = some g) (hc : Ch (fun b => o = some b) w w') :
  ∃ rest', Sys w0 w' (bs ++ oB o' (zs ++ rest')) ts ∧ OwS o' (n + 1) oc' zs rest' := by
 obtain ⟨g, rfl⟩ := hp (Nat.succ_pos _)
 obtain ⟨r, hr, hb⟩ := ho.2.2.2.2 g rfl
 refine ⟨r, h.grow1 hc hb ?_, by have := ho.1; omega, ho.2.1, ho.2.2.1, (fun e => by cases e), by omega⟩
 rcases hne with e | ⟨g', e, hg⟩
 ·exact .inl e.symm
 ·cases e; exact .inr hg
end
def txA (l : List ByteArray) (k : Nat) : ByteArray := l.getD k ByteArray.empty
theorem str_get {w : World} {b off : Nat} {l : List ByteArray} {k : Nat} (h : Rd w (some ⟨b, off, none⟩) (l.map Value.string)) (hk : k < l.length) : w.cell? ⟨b, off + k * 1, none⟩ = some (.string (txA l k)) := by
 rw [Nat.mul_one]
 refine rd_at h k _ ?_
 rw [List.getElem?_map, List.getElem?_eq_getElem hk]
 simp [txA, List.getD, hk]
theorem OwS.some {o : Option Nat} {n oc : Nat} {xs rest : List Value} (h : OwS o n oc xs rest) (hn : 0 < n) : ∃ b, o = some b := by
 cases o with
 | none => have := (h.no rfl).1; omega
 | some b => exact ⟨b, rfl⟩
end Go.Proofs.YteoejhjfbfacdaaDoor.X
namespace Go.Proofs.YteoejhjfbfacdaaDoor.X
open Go Go.RowKit Go.Proofs.YteoejhjfbfacdaaDoor
theorem print_sc {T : TS} {W H x y : Nat} {f : Nat → Cel} {c q : Int} (hx : x < W) (hy : y < H) (hg : T.grid = plG W H f) (hc : T.cursor = ⟨(x : Int), (y : Int), false, sty0⟩) (hi : T.insert = false)
  (hs : signT T c = (q, 1)) (hq : narC ⟨q, sty0⟩) (hr : rightB q = true) (hf : ∀ i, narC (f i)) :
  printT T c = { T with grid := plG W H (fun i => if i = y * W + x then ⟨q, sty0⟩ else f i), cursor := if x + 1 = W then ⟨(W : Int) - 1, (y : Int), T.wrap, sty0⟩ else ⟨((x + 1 : Nat) : Int), (y : Int), false, sty0⟩ } := by
 unfold printT
 rw [hs]
 have eA : printA T = T := by unfold printA; rw [if_neg (by rw [hc]; simp)]
 rw [eA]
 dsimp only
 have eB : printB T 1 = T := by
  unfold printB
  rw [if_neg (by rw [hc, hg]; show ¬ (W : Int) < (x : Int) + 1; omega)]
 rw [eB]
 unfold printC
 rw [if_neg (by rw [hi]; simp)]
 unfold printD
 rw [hg, hc]
 dsimp only
 rw [plG_put hx hy hq (by unfold celB styleB; dsimp only; rw [hr]; rfl) hf]
 unfold printE
 dsimp only
 by_cases he : x + 1 = W
 ·rw [if_pos (by show (x : Int) + 1 = (W : Int); omega), if_pos he]
  rfl
 ·rw [if_neg (by show ¬ (x : Int) + 1 = (W : Int); omega), if_neg he]
  rfl
def ovF (W : Nat) (f : Nat → Cel) (y k : Nat) (s : ByteArray) (i : Nat) : Cel := if i / W = y ∧ i % W < k then ⟨bt s ((i % W : Nat) : Int), sty0⟩ else f i
def ascB (s : ByteArray) : Prop := ∀ i : Nat, i < s.size → 32 < bt s (i : Int) ∧ bt s (i : Int) ≤ 126
theorem asc_nar {s : ByteArray} (h : ascB s) {i : Nat} (hi : i < s.size) : narC ⟨bt s (i : Int), sty0⟩ := by
 obtain ⟨h1, h2⟩ := h i hi
 obtain ⟨_, _, b2, _⟩ := asc_one (c := bt s (i : Int)) ⟨by omega, h2⟩
 exact ⟨by show bt s (i : Int) ≠ 0; omega, b2⟩
theorem ix_div {W y x : Nat} (h : x < W) : (y * W + x) / W = y ∧ (y * W + x) % W = x := by
 have hW : 0 < W := by omega
 refine ⟨?_, ?_⟩
 ·rw [Nat.mul_comm, Nat.mul_add_div hW, Nat.div_eq_of_lt h, Nat.add_zero]
 ·rw [Nat.mul_comm, Nat.mul_add_mod, Nat.mod_eq_of_lt h]
theorem ix_eq {W y x i : Nat} (h : x < W) : i = y * W + x ↔ i / W = y ∧ i % W = x := by
 constructor
 ·rintro rfl; exact ix_div h
 ·rintro ⟨h1, h2⟩
  rw [← h1, ← h2, Nat.mul_comm]
  exact (Nat.div_add_mod i W).symm
theorem write_row {T : TS} {W H y : Nat} {f : Nat → Cel} {s : ByteArray} (hW : 0 < W) (hg : T.grid = plG W H f) (hc : T.cursor = ⟨0, (y : Int), false, sty0⟩) (hy : y < H) (hi : T.insert = false) (hp : T.parser = atP 0) (hwr : T.wrap = true)
  (h0 : T.shift = false) (h1 : T.draw0 = false) (hs : ascB s) (hz : s.size ≤ W) (hf : ∀ i, narC (f i)) :
  ∀ k, k ≤ s.size → writeN T s k = { T with grid := plG W H (ovF W f y k s), cursor := if k = W then ⟨(W : Int) - 1, (y : Int), true, sty0⟩ else ⟨((k : Nat) : Int), (y : Int), false, sty0⟩ }
 | 0, _ => by
  rw [writeN, if_neg (by omega), show ovF W f y 0 s = f by funext i; simp [ovF], ← hg]
  show T = { T with cursor := ⟨0, (y : Int), false, sty0⟩ }
  rw [← hc]
 | k + 1, hk => by
  rw [writeN, write_row hW hg hc hy hi hp hwr h0 h1 hs hz hf k (by omega)]
  have hcc := hs k (by omega)
  obtain ⟨_, a1, a2, _⟩ := asc_one (c := bt s (k : Int)) ⟨by omega, hcc.2⟩
  rw [feed_asc (by exact hp) ⟨by omega, hcc.2⟩, if_neg (by omega)]
  have hfn : ∀ i, narC (ovF W f y k s i) := fun i => by
   unfold ovF
   split
   ·rename_i h; exact asc_nar hs (by omega)
   ·exact hf i
  refine (print_sc (T := { T with grid := plG W H (ovF W f y k s), cursor := ⟨(k : Int), (y : Int), false, sty0⟩ }) (x := k) (y := y) (q := bt s (k : Int)) (f := ovF W f y k s) (by omega) hy rfl rfl hi ?_ (asc_nar hs (by omega)) a1 hfn).trans ?_
  ·unfold signT
   dsimp only
   rw [h0, h1]
   simp only [Bool.false_and, Bool.not_false, Bool.and_false, Bool.or_false, Bool.false_eq_true, if_false, a1, a2, Bool.not_true]
   unfold colsI
   simp [colI, a1, a2]
  ·dsimp only
   rw [hwr]
   congr 2
   funext i
   unfold ovF
   by_cases e : i / W = y ∧ i % W = k
   ·rw [if_pos ((ix_eq (by omega)).2 e), if_pos ⟨e.1, by omega⟩, e.2]
   ·rw [if_neg (fun h => e ((ix_eq (by omega)).1 h))]
    by_cases e2 : i / W = y ∧ i % W < k
    ·rw [if_pos e2, if_pos ⟨e2.1, by omega⟩]
    ·rw [if_neg e2, if_neg (fun h => by rcases Nat.lt_or_ge (i % W) k with h3 | h3; exact e2 ⟨h.1, h3⟩; exact e ⟨h.1, by omega⟩)]
abbrev crlf : ByteArray := ⟨#[13, 10]⟩
theorem feed13 {T : TS} (h : T.parser = atP 0) : feedT T 13 = moveT T 0 T.cursor.y := by
 have e : feedP T.parser 13 = (atP 0, [acX 13]) := by rw [h]; rfl
 unfold feedT
 rw [e]
 have e2 : ({ T with parser := atP 0 } : TS) = T := by rw [← h]
 rw [e2]; rfl
theorem feed10 {T : TS} (h : T.parser = atP 0) : feedT T 10 = lateT (downT T) false := by
 have e : feedP T.parser 10 = (atP 0, [acX 10]) := by rw [h]; rfl
 unfold feedT
 rw [e]
 have e2 : ({ T with parser := atP 0 } : TS) = T := by rw [← h]
 rw [e2]; rfl
theorem write_crlf {T : TS} (h : T.parser = atP 0) : writeT T crlf = lateT (downT (moveT T 0 T.cursor.y)) false := by
 show feedT (feedT T 13) 10 = _
 rw [feed13 h, feed10 (by exact h)]
theorem plG_up {W H : Nat} {f : Nat → Cel} (hH : 0 < H) : upG (plG W H f) 0 H 1 sty0 = plG W H (fun i => if i / W + 1 < H then f (i + W) else blankC sty0) := by
 have e1 : (topI (plG W H f) 0).toNat = 0 := by unfold topI; show (min (max 0 0) (H : Int)).toNat = 0; omega
 have e2 : (topI (plG W H f) (H : Int)).toNat = H := by unfold topI; show (min (max (H : Int) 0) (H : Int)).toNat = H; omega
 have e3 : (cntI (plG W H f) 0 (H : Int) 1).toNat = 1 := by
  unfold cntI topI
  show (min (max 1 0) (max (min (max (H : Int) 0) (H : Int) - min (max 0 0) (H : Int)) 0)).toNat = 1
  omega
 unfold upG
 rw [e1, e2, e3]
 unfold plG
 simp only [Gr.mk.injEq, true_and, Int.toNat_natCast]
 show up1 ((List.range H).map fun y => (List.range W).map fun x => f (y * W + x)) 0 H _ = _
 unfold up1
 apply List.ext_getElem?
 intro j
 simp only [List.take_zero, List.nil_append, Nat.zero_add]
 have hlen : (((List.range H).map fun y => (List.range W).map fun x => f (y * W + x)).drop 1).length = H - 1 := by simp
 have hd : ((List.range H).map fun y => (List.range W).map fun x => f (y * W + x)).drop H = [] := List.drop_eq_nil_of_le (by simp)
 rw [hd, List.append_nil, List.take_of_length_le (by omega)]
 by_cases hj : j < H
 ·by_cases h1 : j + 1 < H
  ·rw [List.getElem?_append_left (by omega), List.getElem?_drop]
   simp only [List.getElem?_map, List.getElem?_range hj, List.getElem?_range (show 1 + j < H by omega), Option.map_some, Option.some.injEq]
   refine List.map_congr_left fun i hi => ?_
   have hi' : i < W := by simpa using hi
   rw [(ix_div hi').1, if_pos h1]
   congr 1
   rw [Nat.add_mul]; omega
  ·rw [List.getElem?_append_right (by omega), hlen, show j - (H - 1) = 0 by omega]
   simp only [List.getElem?_map, List.getElem?_range hj, Option.map_some, List.getElem?_cons_zero, Option.some.injEq]
   apply List.ext_getElem?
   intro i
   by_cases hi : i < W
   ·simp only [List.getElem?_map, List.getElem?_range hi, Option.map_some, List.getElem?_replicate, hi, if_true, (ix_div hi).1, if_neg h1]
   ·rw [List.getElem?_eq_none (by simp; omega), List.getElem?_eq_none (by simp; omega)]
 ·rw [List.getElem?_eq_none (by simp; omega), List.getElem?_eq_none (by simp; omega)]
theorem plG_out {W H : Nat} {f : Nat → Cel} (hH : 0 < H) : outG (plG W H f) 0 H 1 sty0 = [(List.range W).map f] := by
 have e1 : (topI (plG W H f) 0).toNat = 0 := by unfold topI; show (min (max 0 0) (H : Int)).toNat = 0; omega
 have e3 : (cntI (plG W H f) 0 (H : Int) 1).toNat = 1 := by
  unfold cntI topI
  show (min (max 1 0) (max (min (max (H : Int) 0) (H : Int) - min (max 0 0) (H : Int)) 0)).toNat = 1
  omega
 unfold outG
 rw [e1, e3]
 show [] ++ [(plG W H f).lines.getD 0 []] = _
 simp [plG, List.getD, hH]
def lnF (s : ByteArray) (x : Nat) : Cel := if x < s.size then ⟨bt s (x : Int), sty0⟩ else blankC sty0
def scF (W : Nat) (L : List ByteArray) (out i : Nat) : Cel := match L[out + i / W]? with
 | some s => lnF s (i % W)
 | none => blankC sty0
def bkL (W : Nat) (L : List ByteArray) : List (List Cel) := L.map fun s => (List.range W).map (lnF s)
def bkT (W : Nat) (L : List ByteArray) : List (List Cel) := (bkL W L).drop ((bkL W L).length - 20)
theorem bkT_app (W : Nat) (L : List ByteArray) (s : ByteArray) : keepB (bkT W L) [(List.range W).map (lnF s)] = bkT W (L ++ [s]) := by
 have e : bkL W (L ++ [s]) = bkL W L ++ [(List.range W).map (lnF s)] := by simp [bkL]
 unfold keepB bkT
 rw [e]
 rw [← List.drop_append_of_le_length (by omega), List.drop_drop]
 congr 1
 simp only [List.length_drop, List.length_append, List.length_cons, List.length_nil]
 omega
theorem scF_add (W : Nat) (L : List ByteArray) (s : ByteArray) (out y : Nat) (h : out + y = L.length) : ovF W (scF W L out) y s.size s = scF W (L ++ [s]) out := by
 funext i
 unfold ovF scF lnF
 by_cases e : i / W = y
 ·rw [e, h, List.getElem?_append_right (Nat.le_refl _), Nat.sub_self, List.getElem?_eq_none (Nat.le_refl _)]
  simp only [true_and, List.getElem?_cons_zero]
 ·rw [if_neg (fun h => e h.1)]
  by_cases h2 : out + i / W < L.length
  ·rw [List.getElem?_append_left h2]
  ·rw [List.getElem?_eq_none (by omega), List.getElem?_eq_none (by simp; omega)]
theorem scF_up (W H : Nat) (hW : 0 < W) (L : List ByteArray) (out : Nat) (h : out + H = L.length) : (fun i => if i / W + 1 < H then scF W L out (i + W) else blankC sty0) = scF W L (out + 1) := by
 funext i
 unfold scF
 rw [show (i + W) / W = i / W + 1 from Nat.add_div_right i hW, Nat.add_mod_right]
 by_cases e : i / W + 1 < H
 ·rw [if_pos e, show out + (i / W + 1) = out + 1 + i / W by omega]
 ·rw [if_neg e, List.getElem?_eq_none (by omega)]
def scT (p1 p2 : Int) (L : List ByteArray) : TS := L.foldl (fun T s => writeT T (s ++ crlf)) (startT zeroT p1 p2)
def okL (W : Nat) (L : List ByteArray) : Prop := ∀ s ∈ L, s.size ≤ W ∧ ascB s
theorem scF_nar {W : Nat} {L : List ByteArray} (h : okL W L) (out i : Nat) : narC (scF W L out i) := by
 unfold scF
 split
 ·rename_i s hs
  unfold lnF
  split
  ·rename_i hx
   exact asc_nar (h s (List.mem_of_getElem? hs)).2 hx
  ·exact blank_nar
 ·exact blank_nar
abbrev scW (p : Int) : Nat := (sideI p).toNat
def scE (p1 p2 : Int) (L : List ByteArray) : TS := { startT zeroT p1 p2 with
 grid := plG (scW p1) (scW p2) (scF (scW p1) L (L.length + 1 - scW p2)), cursor := ⟨0, ((min L.length (scW p2 - 1) : Nat) : Int), false, sty0⟩, back := bkT (scW p1) (L.take (L.length + 1 - scW p2)) }
theorem scE_zero (p1 p2 : Int) : startT zeroT p1 p2 = scE p1 p2 [] := by
 have h1 : 1 ≤ scW p2 := by unfold scW sideI; omega
 unfold scE
 rw [show ([] : List ByteArray).length + 1 - scW p2 = 0 by simp; omega]
 have e1 : plG (scW p1) (scW p2) (scF (scW p1) [] 0) = newG p1 p2 := (plG_new p1 p2).symm
 rw [e1]
 simp only [List.length_nil, Nat.zero_min]
 rfl
theorem scE_next (p1 p2 : Int) (L : List ByteArray) (s : ByteArray) (h : okL (scW p1) (L ++ [s])) : writeT (scE p1 p2 L) (s ++ crlf) = scE p1 p2 (L ++ [s]) := by
 have hW : 1 ≤ scW p1 := by unfold scW sideI; omega
 have hH : 1 ≤ scW p2 := by unfold scW sideI; omega
 have hH2 : ((scW p2 : Nat) : Int) = sideI p2 := by unfold scW sideI; omega
 have hL : okL (scW p1) L := fun x hx => h x (List.mem_append_left _ hx)
 have hs := h s (List.mem_append_right _ (List.mem_singleton.2 rfl))
 rw [write_app]
 have key := write_row (T := scE p1 p2 L) (W := scW p1) (H := scW p2) (y := min L.length (scW p2 - 1)) (s := s) hW rfl rfl (by omega) rfl rfl rfl rfl rfl hs.2 hs.1 (scF_nar hL _) s.size (Nat.le_refl _)
 rw [scF_add (scW p1) L s (L.length + 1 - scW p2) (min L.length (scW p2 - 1)) (by omega)] at key
 have e1 : writeT (scE p1 p2 L) s = writeN (scE p1 p2 L) s s.size := rfl
 rw [e1, key, write_crlf (by rfl)]
 have em : ∀ (T : TS) (x : Int) (b : Bool), T.grid.h = (scW p2 : Int) → T.cursor = ⟨x, ((min L.length (scW p2 - 1) : Nat) : Int), b, sty0⟩ → 1 ≤ T.grid.w → moveT T 0 T.cursor.y = { T with cursor := ⟨0, ((min L.length (scW p2 - 1) : Nat) : Int), false, sty0⟩ } := fun T x b h1 h2 h3 => by
  unfold moveT
  rw [h2]
  dsimp only
  rw [h1]
  congr 2
  ·omega
  ·omega
 generalize hT : ({ scE p1 p2 L with grid := plG (scW p1) (scW p2) (scF (scW p1) (L ++ [s]) (L.length + 1 - scW p2)), cursor := if s.size = scW p1 then ⟨(scW p1 : Int) - 1, ((min L.length (scW p2 - 1) : Nat) : Int), true, sty0⟩ else ⟨((s.size : Nat) : Int), ((min L.length (scW p2 - 1) : Nat) : Int), false, sty0⟩ } : TS) = T
 have hm : moveT T 0 T.cursor.y = { scE p1 p2 L with grid := plG (scW p1) (scW p2) (scF (scW p1) (L ++ [s]) (L.length + 1 - scW p2)), cursor := ⟨0, ((min L.length (scW p2 - 1) : Nat) : Int), false, sty0⟩ } := by
  have hc : ∃ x b, T.cursor = ⟨x, ((min L.length (scW p2 - 1) : Nat) : Int), b, sty0⟩ := by
   rw [← hT]; dsimp only
   split
   ·exact ⟨_, _, rfl⟩
   ·exact ⟨_, _, rfl⟩
  obtain ⟨x, b, hc⟩ := hc
  rw [em T x b (by rw [← hT]; rfl) hc (by rw [← hT]; show 1 ≤ (scW p1 : Int); omega), ← hT]
 rw [hm]
 unfold downT
 by_cases hy : L.length + 1 < scW p2
 ·rw [if_neg (by show ¬ ((min L.length (scW p2 - 1) : Nat) : Int) = sideI p2 - 1; omega), if_pos (by show ((min L.length (scW p2 - 1) : Nat) : Int) < (scW p2 : Int) - 1; omega)]
  unfold lateT scE
  dsimp only
  rw [show L.length + 1 - scW p2 = 0 by omega, show (L ++ [s]).length + 1 - scW p2 = 0 by simp; omega]
  congr 2
  rw [show min (L ++ [s]).length (scW p2 - 1) = min L.length (scW p2 - 1) + 1 by simp; omega]
  rfl
 ·rw [if_pos (by show ((min L.length (scW p2 - 1) : Nat) : Int) = sideI p2 - 1; omega)]
  unfold scrollT
  rw [if_pos ⟨rfl, rfl⟩]
  have hb : ({ scE p1 p2 L with grid := plG (scW p1) (scW p2) (scF (scW p1) (L ++ [s]) (L.length + 1 - scW p2)), cursor := ⟨0, ((min L.length (scW p2 - 1) : Nat) : Int), false, sty0⟩ } : TS).bot = (scW p2 : Int) := hH2.symm
  rw [hb]
  dsimp only
  have ht : (scE p1 p2 L).top = 0 := rfl
  have hbk : (scE p1 p2 L).back = bkT (scW p1) (L.take (L.length + 1 - scW p2)) := rfl
  rw [ht, hbk]
  rw [plG_up hH, plG_out hH, scF_up _ _ hW _ _ (by simp; omega)]
  have e5 : (List.range (scW p1)).map (scF (scW p1) (L ++ [s]) (L.length + 1 - scW p2)) = (List.range (scW p1)).map (lnF ((L ++ [s])[L.length + 1 - scW p2]'(by simp; omega))) := by
   refine List.map_congr_left fun i hi => ?_
   have hi' : i < scW p1 := by simpa using hi
   unfold scF
   rw [Nat.div_eq_of_lt hi', Nat.mod_eq_of_lt hi', Nat.add_zero, List.getElem?_eq_getElem (by simp; omega)]
  rw [e5, bkT_app]
  unfold lateT scE
  dsimp only
  have e6 : (L ++ [s]).length + 1 - scW p2 = L.length + 1 - scW p2 + 1 := by simp; omega
  rw [e6, List.take_succ_eq_append_getElem (by simp; omega), List.take_append_of_le_length (by omega), show min (L ++ [s]).length (scW p2 - 1) = min L.length (scW p2 - 1) by simp; omega, hH2]
  rfl
theorem scT_eq (p1 p2 : Int) (L : List ByteArray) (h : okL (scW p1) L) : scT p1 p2 L = scE p1 p2 L := by
 have key : ∀ k, k ≤ L.length → scT p1 p2 (L.take k) = scE p1 p2 (L.take k) := by
  intro k
  induction k with
  | zero => intro _; rw [List.take_zero]; exact scE_zero p1 p2
  | succ k ih =>
   intro hk
   rw [List.take_succ_eq_append_getElem (by omega)]
   have e : scT p1 p2 (L.take k ++ [L[k]]) = writeT (scT p1 p2 (L.take k)) (L[k] ++ crlf) := by unfold scT; rw [List.foldl_append]; rfl
   rw [e, ih (by omega)]
   refine scE_next p1 p2 _ _ fun x hx => h x ?_
   rw [← List.take_succ_eq_append_getElem (by omega)] at hx
   exact List.mem_of_mem_take hx
 have := key L.length (Nat.le_refl _)
 rwa [List.take_length] at this
theorem sc_w (p1 p2 : Int) (L : List ByteArray) (h : okL (scW p1) L) : (scT p1 p2 L).grid.w = (scW p1 : Int) ∧ (scT p1 p2 L).grid.h = (scW p2 : Int) := by rw [scT_eq p1 p2 L h]; exact ⟨rfl, rfl⟩
theorem sc_blen (p1 p2 : Int) (L : List ByteArray) (h : okL (scW p1) L) : (scT p1 p2 L).back.length = min (L.length + 1 - scW p2) 20 := by
 rw [scT_eq p1 p2 L h]
 have hH : 1 ≤ scW p2 := by unfold scW sideI; omega
 show (bkT _ _).length = _
 unfold bkT bkL
 simp only [List.length_drop, List.length_map, List.length_take]
 omega
theorem sc_back (p1 p2 : Int) (L : List ByteArray) (h : okL (scW p1) L) (i : Nat) (hi : i < (scT p1 p2 L).back.length) : ∃ s, L[L.length + 1 - scW p2 - (scT p1 p2 L).back.length + i]? = some s ∧ (scT p1 p2 L).back[i]? = some ((List.range (scW p1)).map (lnF s)) := by
 have hb := sc_blen p1 p2 L h
 have hH : 1 ≤ scW p2 := by unfold scW sideI; omega
 have hlt : L.length + 1 - scW p2 - (scT p1 p2 L).back.length + i < L.length := by omega
 have e : (scT p1 p2 L).back = bkT (scW p1) (L.take (L.length + 1 - scW p2)) := by rw [scT_eq p1 p2 L h]; rfl
 have e2 : L.length + 1 - scW p2 - (scT p1 p2 L).back.length + i = (L.take (L.length + 1 - scW p2)).length - 20 + i := by rw [hb, List.length_take]; omega
 have h2 : (L.take (L.length + 1 - scW p2)).length - 20 + i < L.length := by rw [← e2]; exact hlt
 have h3 : (L.take (L.length + 1 - scW p2)).length - 20 + i < L.length + 1 - scW p2 := by rw [List.length_take]; rw [hb] at hi; omega
 refine ⟨L[(L.take (L.length + 1 - scW p2)).length - 20 + i], ?_, ?_⟩
 ·rw [e2]; exact List.getElem?_eq_getElem h2
 ·rw [e]
  unfold bkT bkL
  rw [List.getElem?_drop, List.length_map, List.getElem?_map, List.getElem?_take, if_pos h3, List.getElem?_eq_getElem h2]
  rfl
theorem sc_line (p1 p2 : Int) (L : List ByteArray) (h : okL (scW p1) L) (y : Nat) (hy : y < scW p2) : gl (scT p1 p2 L).grid (y : Int) = (List.range (scW p1)).map fun x => match L[L.length + 1 - scW p2 + y]? with | some s => lnF s x | none => blankC sty0 := by
 rw [scT_eq p1 p2 L h]
 show gl (plG _ _ _) _ = _
 rw [plG_line (by omega) (by omega)]
 refine List.map_congr_left fun i hi => ?_
 have hi' : i < scW p1 := by simpa using hi
 rw [Int.toNat_natCast]
 unfold scF
 rw [(ix_div hi').1, (ix_div hi').2]
def txR (l : List Cel) : Nat → List Int × Nat
 | 0 => ([], 0)
 | k + 1 => if (gc l ((k : Nat) : Int)).rune = 0 then txR l k else ((txR l k).1 ++ [(gc l ((k : Nat) : Int)).rune], if (gc l ((k : Nat) : Int)).rune = 32 then (txR l k).2 else ((txR l k).1.length + 1))
def textL (l : List Cel) : ByteArray := runesBytes ((txR l l.length).1.take (txR l l.length).2)
theorem txR_len (l : List Cel) : ∀ k, (txR l k).1.length ≤ k ∧ (txR l k).2 ≤ (txR l k).1.length
 | 0 => ⟨Nat.le_refl _, Nat.le_refl _⟩
 | k + 1 => by
  have := txR_len l k
  unfold txR
  split
  ·omega
  ·simp only [List.length_append, List.length_cons, List.length_nil]
   split <;> omega
theorem gc_map {W : Nat} (g : Nat → Cel) {k : Nat} (hk : k < W) : gc ((List.range W).map g) ((k : Nat) : Int) = g k := by simp [gc, List.getD, hk]
theorem txR_ln {W : Nat} {s : ByteArray} (hs : ascB s) : ∀ k, k ≤ W → txR ((List.range W).map (lnF s)) k = ((List.range k).map (fun i => if i < s.size then bt s (i : Int) else 32), min k s.size)
 | 0, _ => by simp [txR]
 | k + 1, hk => by
  rw [txR, txR_ln hs k (by omega), gc_map _ (by omega)]
  have e : (lnF s k).rune = if k < s.size then bt s (k : Int) else 32 := by unfold lnF; split <;> rfl
  rw [e]
  by_cases h : k < s.size
  ·have := (hs k h).1
   rw [if_pos h, if_neg (by omega), if_neg (by omega), List.range_succ, List.map_append]
   simp only [List.map_cons, List.map_nil, if_pos h, List.length_map, List.length_range, Prod.mk.injEq, true_and]
   omega
  ·rw [if_neg h, if_neg (by decide), if_pos rfl, List.range_succ, List.map_append]
   simp only [List.map_cons, List.map_nil, if_neg h, Prod.mk.injEq, true_and]
   omega
theorem enc_asc {n : Int} (h : 32 < n ∧ n ≤ 126) : Utf8.encode n = (ByteArray.empty).push (UInt8.ofNat n.toNat) := by
 have hv : Utf8.valid n = true := by unfold Utf8.valid; simp; omega
 unfold Utf8.encode
 simp only [hv, if_true]
 rw [if_pos (by omega)]
 rfl
theorem asc_runes {s : ByteArray} (hs : ascB s) : ∀ k, k ≤ s.size → runesBytes ((List.range k).map fun i => bt s ((i : Nat) : Int)) = s.extract 0 k
 | 0, _ => by simp [runesBytes]
 | k + 1, hk => by
  rw [List.range_succ, List.map_append]
  have e : ∀ l x, runesBytes (l ++ [x]) = runesBytes l ++ Utf8.encode x := fun l x => by unfold runesBytes; rw [List.foldl_append]; rfl
  show runesBytes (_ ++ [bt s (k : Int)]) = _
  rw [e, asc_runes hs k (by omega), enc_asc (hs k (by omega))]
  apply ByteArray.ext_getElem
  ·rw [ByteArray.size_append, ByteArray.size_extract, ByteArray.size_extract]
   show min k s.size - 0 + 1 = _
   omega
  ·intro i h1 h2
   have hz : (s.extract 0 k).size = k := by rw [ByteArray.size_extract]; omega
   rw [ByteArray.size_extract] at h2
   by_cases hik : i < k
   ·rw [ByteArray.getElem_append_left (by omega), ByteArray.getElem_extract, ByteArray.getElem_extract]
   ·obtain rfl : i = k := by omega
    rw [ByteArray.getElem_append_right (by omega)]
    have hb : UInt8.ofNat (bt s (i : Int)).toNat = s[i]'(by omega) := by
     unfold bt
     rw [dif_pos (show (i : Int).toNat < s.size by omega)]
     simp
    rw [ByteArray.getElem_extract]
    simp only [hz, Nat.sub_self, Nat.zero_add, hb]
    rfl
theorem textL_ln {W : Nat} {s : ByteArray} (hs : ascB s) (hz : s.size ≤ W) : textL ((List.range W).map (lnF s)) = s := by
 have hl : ((List.range W).map (lnF s)).length = W := by simp
 unfold textL
 rw [hl, txR_ln hs W (Nat.le_refl _), Nat.min_eq_right hz]
 dsimp only
 rw [← List.map_take, List.take_range, Nat.min_eq_left hz]
 have e : (List.range s.size).map (fun i => if i < s.size then bt s (i : Int) else 32) = (List.range s.size).map fun i => bt s ((i : Nat) : Int) := List.map_congr_left fun i hi => if_pos (by simpa using hi)
 rw [e, asc_runes hs _ (Nat.le_refl _)]
 apply ByteArray.ext_getElem
 ·rw [ByteArray.size_extract]; omega
 ·intro i h1 h2; rw [ByteArray.getElem_extract]; simp
theorem lnF_nil : (fun x => lnF ByteArray.empty x) = fun _ => blankC sty0 := by funext x; unfold lnF; rw [if_neg (by show ¬ x < 0; omega)]
theorem textL_bl (W : Nat) : textL ((List.range W).map fun _ => blankC sty0) = ByteArray.empty := by
 rw [← lnF_nil]
 exact textL_ln (fun i hi => by have : i < 0 := hi; omega) (Nat.zero_le _)
theorem sc_text (p1 p2 : Int) (L : List ByteArray) (h : okL (scW p1) L) (y : Nat) (hy : y < scW p2) : textL (gl (scT p1 p2 L).grid (y : Int)) = (L[L.length + 1 - scW p2 + y]?).getD ByteArray.empty := by
 rw [sc_line p1 p2 L h y hy]
 cases e : L[L.length + 1 - scW p2 + y]? with
 | none => exact textL_bl _
 | some s =>
  have := h s (List.mem_of_getElem? e)
  exact textL_ln this.2 this.1
end Go.Proofs.YteoejhjfbfacdaaDoor.X
namespace Go.Proofs.YteoejhjfbfacdaaDoor.X
open Go Go.RowKit Go.Proofs.YteoejhjfbfacdaaDoor
theorem rd_front {w : World} {a : Option Addr} {xs ys : List Value} (h : Rd w a (xs ++ ys)) : Rd w a xs :=
  ⟨fun e => (List.append_eq_nil_iff.1 (h.1 e)).1, fun ad e j u hj => h.2 ad e j u (by rw [List.getElem?_append_left (List.getElem?_eq_some_iff.1 hj).1]; exact hj)⟩
def txtG (G : Gr) (y : Int) : ByteArray := if thereB G 0 y = true then textL (gl G y) else ByteArray.empty
set_option maxHeartbeats 4000000 in
theorem text_any (g : Nat) (G : Gr) (F : Nat → Prop) (y : Int) (w : World) (hG0 : GridAt w g G F) : Calls Tryd.prog 15 [pX g, iX y].toArray w fun e w' => e = .returned (.string (txtG G y)) ∧ Ch (fun _ => False) w w' := by
 obtain ⟨r, rc, rows, hG⟩ := hG0
 have hG0 : GridAt w g G F := ⟨r, rc, rows, hG⟩
 obtain ⟨⟨hw1, hw2⟩, ⟨hh1, hh2⟩, hll, hall⟩ := hG.ok
 have hlen := hG.len
 have hgr : Df r g := hG.gr
 have hg7 := hG.hi _ hG.inF.1
 have hr7 := hG.hi _ hG.inF.2.1
 obtain ⟨q, hq⟩ := row_any hG y
 refine yA Tryd.func15 rfl <| ysr <| yp 1 [] .z <| ye <| ys <| ysr <| yp 2 [] .z <| yo (yQ (there_any g G 0 y _ hG.head) fun w11 hc10 => ?_)
 have hu12 := Up.step (Up.refl w.heap.size w) hc10 iZ
 have hB13 := hG.head.ch hc10 id
 have hrow14 := hG.body.ch hc10 (fun b e => by cases e; exact id)
 refine yp 4 [] .z <| ye <| yc (rN (rY (thereB G 0 y))) (fun hC15 => ?_) fun hC15 => ?_
 ·have hno := hC15
  refine ysr <| yp 1 [] .z <| ye <| x_ret (rS (yR1 (.string ByteArray.empty) ?_))
  refine ⟨congrArg Ending.returned (congrArg Value.string ?_), Up.ch hu12⟩
  unfold txtG
  rw [if_neg (by rw [hno]; decide)]
 have hyes := there_iff.1 hC15
 have hxs := hq ⟨by omega, by omega⟩
 obtain ⟨hql, hqw, hqm, hqn⟩ := row_line hG hxs
 have hqb1 : Df q.b g := (hG.gb q hqm).1
 have hqb2 : Df q.b r := (hG.gb q hqm).2
 have hq7 := hG.hi _ (hG.inF.2.2 q hqm)
 have hqL := (hG.line q hqm).1
 have hql16 := hqL.ch (Up.ch hu12) id
 refine yk <| ysr <| yp 1 [] .z <| ye <| ysr <| yp 1 [] .z <| ye <| ys <| ysr <| yp 9 [] (.l (hB13.c 2) (.i y (rows.length) (.l (row_cell hrow14 hxs) .z))) <| ye <| x_block <| ykeep [5, 6, 19, 20, 21] (f' := [(5, .slice none 0 0), (6, iX 0), (19, .slice (some ⟨q.b, 0, none⟩) q.n q.cap), (20, iX ((q.n : Nat) : Int)), (21, iX 0)]) <| x_loop (σ := Nat × Option Nat × Nat × Nat × Nat) (fun ⟨k, o, oc, n, m⟩ => [(5, .slice (o.map at0) n oc), (6, iX ((m : Nat) : Int)), (19, .slice (some ⟨q.b, 0, none⟩) q.n q.cap), (20, iX ((q.n : Nat) : Int)), (21, iX ((k : Nat) : Int))]) (fun ⟨k, o, oc, n, m⟩ u => k ≤ q.l.length ∧ n = (txR q.l k).1.length ∧ m = (txR q.l k).2 ∧ Ch (fun _ => False) w11 u ∧ Own u tRune 1 o n oc ((txR q.l k).1.map (Value.int .i32)) ∧ ∀ b, o = some b → w11.heap.size ≤ b) (fun ⟨k, o, oc, n, m⟩ => q.l.length - k) (0, none, 0, 0, 0) rfl ?_ ?_
 ·exact ⟨Nat.zero_le _, rfl, rfl, Ch.refl _ _, Own.nil _ _ _, fun b e => by cases e⟩
 intro p w17 hI18 K19 hL20
 obtain ⟨k, o, oc, n, m⟩ := p
 obtain ⟨hk, hn, hm, hc21, hO, hlo⟩ := hI18
 have hnk := txR_len q.l k
 rw [← hn, ← hm] at hnk
 have hoc : n ≤ oc := hO.2.1
 have hold22 : g < w11.heap.size := hB13.lt
 have hold23 : r < w11.heap.size := hrow14.lt
 have hold24 : q.b < w11.heap.size := hql16.lt
 have hu25 := Up.step hu12 hc21 iZ
 have hl28 := hql16.ch hc21 id
 refine ysr <| yp 1 [] .z <| ye <| ys <| yc (rL ((k : Nat) : Int) ((q.n : Nat) : Int)) (fun hC29 => ?_) fun hC29 => ?_
 ·refine yk <| ys <| x_block <| ysr <| yp 2 [] (.i ((k : Nat) : Int) (q.n) (.m (c_rune (i := ((k : Nat) : Int)) hl28.rd (by omega) (by omega)) (.m (c_bold (i := ((k : Nat) : Int)) hl28.rd (by omega) (by omega)) (.m (c_under (i := ((k : Nat) : Int)) hl28.rd (by omega) (by omega)) (.m (c_turned (i := ((k : Nat) : Int)) hl28.rd (by omega) (by omega)) (.m (c_fore (i := ((k : Nat) : Int)) hl28.rd (by omega) (by omega)) (.m (c_back (i := ((k : Nat) : Int)) hl28.rd (by omega) (by omega)) (.e .z)))))))) <| yo (yN [rX 0, .bool false, .bool false, .bool false, iX 0, iX 0] 46 fun w30 b31 hb32 hz33 hB34 hc35 => ?_)
  have hbn36 : ∀ b', o = some b' → ¬ b' = b31 := fun b' e => by have := hO.ltOf e; omega
  have hlo37 : w.heap.size ≤ b31 := by rw [hb32]; exact Ch.size hu25
  have hlo37l : w11.heap.size ≤ b31 := by rw [hb32]; exact Ch.size hc21
  have hu38 := Up.step hu25 hc35 iZ
  have hL39 := Ch.trans hc21 hc35 eZ
  have ho43 := hO.ch hc35 iZ
  refine yo (yS hB34 fun w44 hB45 hc46 => ?_)
  have hu47 := Up.step hu38 hc46 (fun i hi (h : i = b31) => by omega)
  have hL48 := Ch.trans hL39 hc46 (fun i hi (h : i = b31) => by omega)
  have ho52 := ho43.ch hc46 (fun b e (h : b = b31) => hbn36 b e h)
  replace hB45 : Blk w44 b31 [rX (gc q.l ((k : Nat) : Int)).rune, .bool (gc q.l ((k : Nat) : Int)).sty.bold, .bool (gc q.l ((k : Nat) : Int)).sty.under, .bool (gc q.l ((k : Nat) : Int)).sty.turned, iX (gc q.l ((k : Nat) : Int)).sty.fore, iX (gc q.l ((k : Nat) : Int)).sty.back] _ := Blk.to hB45 (by kernel_rfl)
  refine ye <| ys <| ysr <| yp 3 [] (.l (hB45.c 0) .z) <| ye <| yc (rE (gc q.l ((k : Nat) : Int)).rune 0) (fun hC53 => ?_) fun hC53 => ?_
  ·have hz := hC53
   refine x_exit (eS (block_exit (nS ?_)))
   refine x_region <| yp 2 [] (.q6 (((k : Nat) : Int) + 1) .z) <| yE (fun a ha => hL20 (k + 1, o, oc, n, m) _ ⟨by omega, by rw [txR, if_pos hz]; exact hn, by rw [txR, if_pos hz]; exact hm, hL48, by rw [txR, if_pos hz]; exact ho52, hlo⟩ (by show q.l.length - (k + 1) < q.l.length - k; omega) a (ha.kp [5, 6, 19, 20, 21]))
  have hz := hC53
  refine yk <| ysr <| yp 3 [] (.l (hB45.c 0) .z) <| yo (yB [rX (gc q.l ((k : Nat) : Int)).rune] 21 1 fun w54 b55 hb56 hz57 hB58 hc59 => ?_)
  have hbn60 : ∀ b', o = some b' → ¬ b' = b55 := fun b' e => by have := ho52.ltOf e; omega
  have hlo61 : w.heap.size ≤ b55 := by rw [hb56]; exact Ch.size hu47
  have hlo61l : w11.heap.size ≤ b55 := by rw [hb56]; exact Ch.size hL48
  have hL63 := Ch.trans hL48 hc59 eZ
  have ho67 := ho52.ch hc59 iZ
  have hB68 := hB45.ch hc59 id
  refine yo (e_app' 21 1 4 o n oc ((txR q.l k).1.map (Value.int .i32)) (some ⟨b55, 0, none⟩) 1 1 [rX (gc q.l ((k : Nat) : Int)).rune] (some 32) (n + 1) rfl (((txR q.l k).1 ++ [(gc q.l ((k : Nat) : Int)).rune]).map (Value.int .i32)) (by rw [List.map_append]; rfl) (by kernel_rfl) ho67 (Rd.all hB58) rfl rfl (fun h => by cases h) (by constructor <;> first | omega | (simp only [maxLen]; omega)) ?_)
  intro w69 og70 cp71 hO72 hne73 hpos74 hc75
  have hlo76 : ∀ b, og70 = some b → w11.heap.size ≤ b := fun b e => by
   rcases hne73 with h | ⟨g', h, h'⟩
   ·exact hlo b (h ▸ e)
   rw [h] at e; have := Option.some.inj e; have := Ch.size hL63; omega
  have hL78 := Ch.trans hL63 hc75 (fun i hi h => by have := hlo _ h; omega)
  have hB82 := hB68.ch hc75 (fun h => hbn36 _ h rfl)
  refine yp 6 [] .z <| ye <| ysr <| yp 3 [] (.l (hB82.c 0) .z) <| ye <| yc (rI (gc q.l ((k : Nat) : Int)).rune 32) (fun hC83 => ?_) fun hC83 => ?_
  ·have hsp := hC83
   refine x_region <| yp 3 [] .z <| yE (nB (nS ?_))
   refine x_region <| yp 2 [] (.q6 (((k : Nat) : Int) + 1) .z) <| yE (fun a ha => hL20 (k + 1, og70, cp71, n + 1, n + 1) _ ⟨by omega, by rw [txR, if_neg hz]; simp only [List.length_append, List.length_cons, List.length_nil]; omega, by rw [txR, if_neg hz]; dsimp only; rw [if_neg (by omega)]; omega, hL78, by rw [txR, if_neg hz]; exact hO72, hlo76⟩ (by show q.l.length - (k + 1) < q.l.length - k; omega) a (ha.kp [5, 6, 19, 20, 21]))
  have hsp := hC83
  refine x_skip (nB (nS ?_))
  refine x_region <| yp 2 [] (.q6 (((k : Nat) : Int) + 1) .z) <| yE (fun a ha => hL20 (k + 1, og70, cp71, n + 1, m) _ ⟨by omega, by rw [txR, if_neg hz]; simp only [List.length_append, List.length_cons, List.length_nil]; omega, by rw [txR, if_neg hz]; dsimp only; rw [if_pos (by omega)]; omega, hL78, by rw [txR, if_neg hz]; exact hO72, hlo76⟩ (by show q.l.length - (k + 1) < q.l.length - k; omega) a (ha.kp [5, 6, 19, 20, 21]))
 have hkn : k = q.l.length := by omega
 refine x_exit (eS (then_exit (block_exit (nS ?_))))
 refine ysr <| yp 3 [] (.j ((m : Nat) : Int) (oc) .z) ?_
 have hr84 : Rd w17 (o.map at0) (((txR q.l k).1.take m).map (Value.int .i32)) := by
  have h := Own.rd hO
  rw [← List.take_append_drop m (txR q.l k).1, List.map_append] at h
  exact rd_front h
 refine yo (e_runes (o.map at0) (((m : Nat) : Int)).toNat oc ((txR q.l k).1.take m) (some 42) (by kernel_rfl) hr84 (by rw [List.length_take]; omega) ?_)
 refine yp 5 [] .z <| ye <| x_ret (yR1 (.string (runesBytes ((txR q.l k).1.take m))) ?_)
 refine ⟨congrArg Ending.returned (congrArg Value.string ?_), Up.ch hu25⟩
 unfold txtG
 rw [if_pos (there_iff.2 hyes), ← hql]
 subst hkn
 rw [hm]
 rfl
end Go.Proofs.YteoejhjfbfacdaaDoor.X
namespace Go.Proofs.YteoejhjfbfacdaaDoor.X
open Go Go.RowKit Go.Proofs.YteoejhjfbfacdaaDoor
def scN (p1 p2 : Int) (l : List ByteArray) : Nat → TS
  | 0 => startT zeroT p1 p2
  | k + 1 => writeT (scN p1 p2 l k) ((txA l k).extract 0 (min ((txA l k).size : Int) (scN p1 p2 l k).grid.w : Int).toNat ++ crlf)
def txN (p1 p2 : Int) (l : List ByteArray) : Nat → List ByteArray
  | 0 => []
  | k + 1 => txN p1 p2 l k ++ [(txA l k).extract 0 (min ((txA l k).size : Int) (scN p1 p2 l k).grid.w : Int).toNat]
theorem txN_len (p1 p2 : Int) (l : List ByteArray) : ∀ k, (txN p1 p2 l k).length = k
  | 0 => rfl
  | k + 1 => by rw [txN, List.length_append, txN_len p1 p2 l k]; rfl
theorem scN_eq (p1 p2 : Int) (l : List ByteArray) : ∀ k, scN p1 p2 l k = scT p1 p2 (txN p1 p2 l k)
  | 0 => rfl
  | k + 1 => by
    rw [txN]
    unfold scT
    rw [List.foldl_append]
    have e := scN_eq p1 p2 l k
    unfold scT at e
    rw [← e]
    rfl
section
variable {p1 p2 : Int} {l : List ByteArray} {k : Nat}
theorem scN_facts (h : okL (scW p1) (txN p1 p2 l k)) : ((scN p1 p2 l k).grid.w = (scW p1 : Int) ∧ 1 ≤ scW p1 ∧ scW p1 ≤ 60) ∧ ((scN p1 p2 l k).grid.h = (scW p2 : Int) ∧ 1 ≤ scW p2 ∧ scW p2 ≤ 60) ∧ (scN p1 p2 l k).back.length = min (k + 1 - scW p2) 20 := by
 have h1 := sc_w p1 p2 _ h
 have h2 := sc_blen p1 p2 _ h
 rw [← scN_eq] at h1 h2
 rw [txN_len] at h2
 have b1 : 1 ≤ scW p1 ∧ scW p1 ≤ 60 := by unfold scW sideI; omega
 have b2 : 1 ≤ scW p2 ∧ scW p2 ≤ 60 := by unfold scW sideI; omega
 exact ⟨⟨h1.1, b1⟩, ⟨h1.2, b2⟩, h2⟩
theorem txN_ok (h : okL (scW p1) (txN p1 p2 l k)) (hs : ascB ((txA l k).extract 0 (min ((txA l k).size : Int) (scN p1 p2 l k).grid.w : Int).toNat)) : okL (scW p1) (txN p1 p2 l (k + 1)) := fun s hm => by
  rw [txN] at hm
  rcases List.mem_append.1 hm with hm | hm
  · exact h s hm
  · obtain rfl := List.mem_singleton.1 hm
    have := (scN_facts h).1.1
    exact ⟨by rw [ByteArray.size_extract]; omega, hs⟩
theorem scN_at (h : okL (scW p1) (txN p1 p2 l k)) (y : Nat) (hy : (y : Int) < (scN p1 p2 l k).grid.h) : txtG (scN p1 p2 l k).grid (y : Int) = ((txN p1 p2 l k)[k + 1 - scW p2 + y]?).getD ByteArray.empty := by
 obtain ⟨⟨f1, f2, _⟩, ⟨f3, _⟩, _⟩ := scN_facts h
 have e := sc_text p1 p2 _ h y (by omega)
 rw [← scN_eq, txN_len] at e
 unfold txtG
 rw [if_pos (there_iff.2 ⟨⟨by omega, by omega⟩, by omega, by omega⟩)]
 exact e
theorem scN_text (h : okL (scW p1) (txN p1 p2 l k)) (y X : Nat) (hy : (y : Int) < (scN p1 p2 l k).grid.h) (hX : X = k + 1 - scW p2 + y) : ((txtG (scN p1 p2 l k).grid (y : Int)).toList == (txA (txN p1 p2 l k) X).toList) = true := by
 rw [scN_at h y hy, ← hX, ← List.getD_eq_getElem?_getD]
 exact beq_self_eq_true _
theorem scN_bl (h : okL (scW p1) (txN p1 p2 l k)) (y : Nat) (hy : (y : Int) < (scN p1 p2 l k).grid.h) (hX : k ≤ k + 1 - scW p2 + y) : ((txtG (scN p1 p2 l k).grid (y : Int)).toList == ByteArray.empty.toList) = true := by
 rw [scN_at h y hy, List.getElem?_eq_none (by rw [txN_len]; exact hX)]
 exact beq_self_eq_true _
theorem back_len (h : okL (scW p1) (txN p1 p2 l k)) {i : Nat} {q : List Cel} (hi : (scN p1 p2 l k).back[i]? = some q) : q.length = scW p1 := by
 rw [scN_eq] at hi
 obtain ⟨s, h1, h2⟩ := sc_back p1 p2 _ h i (List.getElem?_eq_some_iff.1 hi).1
 rw [h2] at hi
 obtain rfl := (Option.some.inj hi).symm
 simp
theorem back_rune (h : okL (scW p1) (txN p1 p2 l k)) {i j X : Nat} {q : List Cel} (hi : (scN p1 p2 l k).back[i]? = some q) (hX : X = k + 1 - scW p2 - (scN p1 p2 l k).back.length + i) (hj : j < q.length) : (gc q ((j : Nat) : Int)).rune = if j < (txA (txN p1 p2 l k) X).size then bt (txA (txN p1 p2 l k) X) (j : Int) else 32 := by
 rw [scN_eq] at hi hX
 obtain ⟨s, h1, h2⟩ := sc_back p1 p2 _ h i (List.getElem?_eq_some_iff.1 hi).1
 rw [txN_len, ← hX] at h1
 rw [h2] at hi
 obtain rfl := (Option.some.inj hi).symm
 have e : txA (txN p1 p2 l k) X = s := by unfold txA; rw [List.getD_eq_getElem?_getD, h1]; rfl
 rw [e, gc_map _ (by simpa using hj)]
 unfold lnF
 split <;> rfl
end
theorem own_str {w0 w : World} {bs : List (Nat × List Value × TypeId)} {ts : List (Nat × TS)} {b : Nat} {L : List ByteArray} {rest : List Value} {k : Nat} (h : Sys w0 w (bs ++ oB (some b) (L.map Value.string ++ rest)) ts) (hk : k < L.length) : w.cell? ⟨b, 0 + k * 1, none⟩ = some (.string (txA L k)) := by
 have hB := h.blk bs.length (b, L.map Value.string ++ rest, tStr) (by simp [oB])
 rw [Nat.mul_one, Nat.zero_add]
 refine (hB.cell k).trans ?_
 dsimp only
 rw [List.getElem?_append_left (by simpa using hk), List.getElem?_map, List.getElem?_eq_getElem hk]
 simp [txA, List.getD, hk]
theorem ba_some {w : World} {a : Option Addr} {n : Nat} {ro : List Row} {FB : Nat → Prop} (hz : a = none ∨ ∃ b off, a = some ⟨b, off, none⟩) (h : LinesAt w a n ro FB) (hn : 0 < n) : ∃ b off, a = some ⟨b, off, none⟩ := by
 rcases hz with rfl | hz
 ·have e := h.rd.1 rfl
  have := h.len
  rw [List.map_eq_nil_iff] at e
  subst e
  simp at this
  omega
 exact hz
theorem out_row {w : World} {a : Option Addr} {n i : Nat} {ro : List Row} {FB : Nat → Prop} {B : List (List Cel)} (h : LinesAt w a n ro FB) (hm : ro.map Row.l = B) (hi : i < n) : ∃ q, ro[i]? = some q ∧ q ∈ ro ∧ B[i]? = some q.l := by
 have hl := h.len
 have e : ro[i]? = some ro[i] := List.getElem?_eq_getElem (by omega)
 exact ⟨_, e, List.getElem_mem _, by rw [← hm, List.getElem?_map, e]; rfl⟩
theorem scb_next {s : ByteArray} {k : Nat} (h : ∀ i : Nat, i < k → 32 < bt s (i : Int) ∧ bt s (i : Int) ≤ 126) (hb : 32 < bt s (k : Int) ∧ bt s (k : Int) ≤ 126) : ∀ i : Nat, i < k + 1 → 32 < bt s (i : Int) ∧ bt s (i : Int) ≤ 126 := fun i hi => by
  rcases Nat.lt_or_ge i k with h' | h'
  · exact h i h'
  · obtain rfl : i = k := by omega
    exact hb
set_option maxHeartbeats 4000000 in
theorem scrolls_any (p1 p2 : Int) (a : Option Addr) (n sc : Nat) (l : List ByteArray) (w : World) (hT : LT w) (h7 : gTop ≤ w.heap.size) (ha : n = 0 ∨ ∃ b off, a = some ⟨b, off, none⟩) (hn : l.length = n) (hst : Rd w a (l.map Value.string)) : Calls Tryd.prog 5 [.agg #[iX p1, iX p2], .slice a n sc].toArray w fun e w' => e = .returned (.bool true) ∧ Ch (fun _ => False) w w' := by
 subst hn
 have hS := Sys.start hT h7
 have z1 : (ByteArray.mk #[13, 10]).size = 2 := rfl
 refine yA Tryd.func5 rfl <| ysr <| yo (yN [iX p1, iX p2] 22 fun w10 b11 hb12 hz13 hB14 hc15 => ?_)
 refine yp 2 [] .z <| ye <| ys <| ysr ?_
 have hS16 : Sys w w10 [(b11, [iX p1, iX p2], 22)] [] := hS.box hc15 hB14 (Nat.le_of_eq hb12.symm)
 refine yo (yQ (lawfit_any _ hS16.lt (Nat.le_trans hS16.top hS16.ch.size)) fun w18 hc17 => ?_)
 have hS19 := hS16.same hc17
 refine yp 2 [] .z <| ye <| ycf <| yk <| ys <| ysr <| yp 3 [] .z <| ye <| yc (rL 100 ((l.length : Nat) : Int)) (fun hC20 => ?_) fun hC20 => ?_
 ·have hpp := hC20
  refine ysr <| yp 1 [] .z <| ye <| x_ret (rS (yR1 (.bool true) ?_))
  exact ⟨rfl, hS19.ch⟩
 have hpp := hC20
 refine yk <| ysr <| yp 4 [] (.i 0 (2) (.l ((hS19.blk 0 (b11, [iX p1, iX p2], 22) rfl).c 0) (.i 1 (2) (.l ((hS19.blk 0 (b11, [iX p1, iX p2], 22) rfl).c 1) .z)))) <| yo (yC (hS19.new (p1) (p2)) ?_)
 rintro _ w24 ⟨t21, rfl, hS22, hc23⟩
 refine ⟨_, rfl, ?_⟩
 replace hS22 : Sys w w24 [(b11, [iX p1, iX p2], 22)] [(t21, (scN p1 p2 l 0))] := hS22
 refine yp 6 [] .z <| ye <| ysr <| yp 1 [] .z <| ye <| ys <| ysr <| yp 3 [] .z <| ye <| x_block <| ykeep [5, 6, 29, 30, 31] (f' := [(5, pX t21), (6, .slice none 0 0), (29, .slice a l.length sc), (30, iX ((l.length : Nat) : Int)), (31, iX 0)]) <| x_loop (σ := Nat × Option Nat × Nat × List Value) (fun ⟨k, o, oc, rest⟩ => [(5, pX t21), (6, .slice (o.map at0) k oc), (29, .slice a l.length sc), (30, iX ((l.length : Nat) : Int)), (31, iX ((k : Nat) : Int))]) (fun ⟨k, o, oc, rest⟩ wv => (k : Int) ≤ ((l.length : Nat) : Int) ∧ Sys w wv ([(b11, [iX p1, iX p2], 22)] ++ oB o ((txN p1 p2 l k).map Value.string ++ rest)) [(t21, (scN p1 p2 l k))] ∧ OwS o k oc ((txN p1 p2 l k).map Value.string) rest ∧ okL (scW p1) (txN p1 p2 l k)) (fun ⟨k, o, oc, rest⟩ => (((l.length : Nat) : Int)).toNat - k) (0, none, 0, []) rfl ?_ ?_
 ·exact ⟨by omega, hS22.startO, OwS.nil, fun s hs => by cases hs⟩
 intro p w25 hI26 K27 hL28
 obtain ⟨k, o, oc, rest⟩ := p
 obtain ⟨hk29, hS30, ho31, hok32⟩ := hI26
 replace hS30 : Sys w w25 ([(b11, [iX p1, iX p2], 22)] ++ oB o ((txN p1 p2 l k).map Value.string ++ rest)) [(t21, (scN p1 p2 l k))] := hS30
 obtain ⟨hgw, hgh, hbk⟩ := scN_facts hok32
 have hoc := ho31.le
 refine ysr <| yp 1 [] .z <| ye <| ys <| yc (rL ((k : Nat) : Int) ((l.length : Nat) : Int)) (fun hC33 => ?_) fun hC33 => ?_
 ·obtain ⟨sb, so, rfl⟩ := ha.resolve_left (by omega)
  refine yk <| ys <| x_block <| ysr <| yp 3 [] (.i ((k : Nat) : Int) (l.length) (.l (o := (so + (((k : Nat) : Int)).toNat * 1)) (str_get (k := k) (Ch.rd hS30.ch hst id) (by omega)) .z)) <| ye <| ysr ?_
  obtain ⟨g34, F35, hg36, hG37⟩ := hS30.grid (i := 0) rfl
  obtain ⟨r38, rc39, rows40, hI41⟩ := hG37
  have hlenhI41 := hI41.len
  refine yp 13 [] (.l hg36 (.l (hI41.head.c 0) (.j (min ((((txA l k)).size : Int) : Int) (scN p1 p2 l k).grid.w) (((txA l k)).size) .z))) <| ye <| ys <| ysr <| yp 3 [] .z <| ye <| x_block ?_
  have hxz42 : ((((txA l k)).extract 0 ((min ((((txA l k)).size : Int) : Int) (scN p1 p2 l k).grid.w) : Int).toNat)).size ≤ 60 := by rw [ByteArray.size_extract]; omega
  refine ykeep [5, 6, 8, 29, 30, 31, 48, 49] (f' := [(5, pX t21), (6, .slice (o.map at0) k oc), (8, .string (((txA l k)).extract 0 ((min ((((txA l k)).size : Int) : Int) (scN p1 p2 l k).grid.w) : Int).toNat)), (29, .slice (some ⟨sb, so, none⟩) l.length sc), (30, iX ((l.length : Nat) : Int)), (31, iX ((k : Nat) : Int)), (48, iX (((((txA l k)).extract 0 ((min ((((txA l k)).size : Int) : Int) (scN p1 p2 l k).grid.w) : Int).toNat)).size : Int)), (49, iX 0)]) <| x_loop (σ := Nat) (fun j => [(5, pX t21), (6, .slice (o.map at0) k oc), (8, .string (((txA l k)).extract 0 ((min ((((txA l k)).size : Int) : Int) (scN p1 p2 l k).grid.w) : Int).toNat)), (29, .slice (some ⟨sb, so, none⟩) l.length sc), (30, iX ((l.length : Nat) : Int)), (31, iX ((k : Nat) : Int)), (48, iX (((((txA l k)).extract 0 ((min ((((txA l k)).size : Int) : Int) (scN p1 p2 l k).grid.w) : Int).toNat)).size : Int)), (49, iX ((j : Nat) : Int))]) (fun j wvj => (j : Int) ≤ ((((((txA l k)).extract 0 ((min ((((txA l k)).size : Int) : Int) (scN p1 p2 l k).grid.w) : Int).toNat)).size : Nat) : Int) ∧ Sys w wvj ([(b11, [iX p1, iX p2], 22)] ++ oB o ((txN p1 p2 l k).map Value.string ++ rest)) [(t21, (scN p1 p2 l k))] ∧ ∀ i : Nat, i < j → 32 < bt (((txA l k)).extract 0 ((min ((((txA l k)).size : Int) : Int) (scN p1 p2 l k).grid.w) : Int).toNat) (i : Int) ∧ bt (((txA l k)).extract 0 ((min ((((txA l k)).size : Int) : Int) (scN p1 p2 l k).grid.w) : Int).toNat) (i : Int) ≤ 126) (fun j => ((((txA l k)).extract 0 ((min ((((txA l k)).size : Int) : Int) (scN p1 p2 l k).grid.w) : Int).toNat)).size - j) 0 rfl ?_ ?_
  ·exact ⟨by omega, hS30, fun i hi => absurd hi (Nat.not_lt_zero i)⟩
  intro j w43 hI44 K45 hL46
  obtain ⟨hk47, hS48, hx49⟩ := hI44
  replace hS48 : Sys w w43 ([(b11, [iX p1, iX p2], 22)] ++ oB o ((txN p1 p2 l k).map Value.string ++ rest)) [(t21, (scN p1 p2 l k))] := hS48
  refine ysr <| yp 1 [] .z <| ye <| ys <| yc (rL ((j : Nat) : Int) (((((txA l k)).extract 0 ((min ((((txA l k)).size : Int) : Int) (scN p1 p2 l k).grid.w) : Int).toNat)).size : Int)) (fun hC50 => ?_) fun hC50 => ?_
  ·have hbt := bt_range (((txA l k)).extract 0 ((min ((((txA l k)).size : Int) : Int) (scN p1 p2 l k).grid.w) : Int).toNat) ((j : Nat) : Int)
   refine yk <| ys <| x_block <| ysr <| yp 2 [] .z <| ye <| ysr <| yp 5 [] (.i ((j : Nat) : Int) (((((txA l k)).extract 0 ((min ((((txA l k)).size : Int) : Int) (scN p1 p2 l k).grid.w) : Int).toNat)).size) .z) <| yw [56] (rM (bt (((txA l k)).extract 0 ((min ((((txA l k)).size : Int) : Int) (scN p1 p2 l k).grid.w) : Int).toNat) ((j : Nat) : Int)) 32) (fun hC51 => ?_) fun hC51 => ?_
   ·have hpp := hC51
    refine yp 10 [] .z <| ye <| yct <| ysr <| yp 1 [] .z <| ye <| x_ret (rB (rS (then_ret (rB (rS (rB (rS (then_ret (rB (rS (yR1 (.bool true) ?_)))))))))))
    exact ⟨rfl, hS48.ch⟩
   have hpp := hC51
   refine yp 10 [] (.i ((j : Nat) : Int) (((((txA l k)).extract 0 ((min ((((txA l k)).size : Int) : Int) (scN p1 p2 l k).grid.w) : Int).toNat)).size) .z) <| ye <| yc (rL 126 (bt (((txA l k)).extract 0 ((min ((((txA l k)).size : Int) : Int) (scN p1 p2 l k).grid.w) : Int).toNat) ((j : Nat) : Int))) (fun hC52 => ?_) fun hC52 => ?_
   ·have hpp := hC52
    refine ysr <| yp 1 [] .z <| ye <| x_ret (rB (rS (then_ret (rB (rS (rB (rS (then_ret (rB (rS (yR1 (.bool true) ?_)))))))))))
    exact ⟨rfl, hS48.ch⟩
   have hpp := hC52
   refine x_skip (nB (nS ?_))
   refine x_region <| yp 2 [] (.q6 (((j : Nat) : Int) + 1) .z) <| yE (fun a ha => hL46 (j + 1) _ ⟨by omega, hS48, scb_next hx49 ⟨by omega, by omega⟩⟩ (by omega) a (ha.kp [5, 6, 8, 29, 30, 31, 48, 49]))
  have hasc53 : ascB (((txA l k)).extract 0 ((min ((((txA l k)).size : Int) : Int) (scN p1 p2 l k).grid.w) : Int).toNat) := fun i hi => hx49 i (by omega)
  refine x_exit (eS (then_exit (block_exit (nS ?_))))
  refine ysr <| yp 3 [] (.p (q := ((((txA l k)).extract 0 ((min ((((txA l k)).size : Int) : Int) (scN p1 p2 l k).grid.w) : Int).toNat)).size + ((⟨#[13, 10]⟩ : ByteArray)).size ≤ 9223372036854775807) (by omega) .z) <| yo (yQ (hS48.write (i := 0) rfl ((((txA l k)).extract 0 ((min ((((txA l k)).size : Int) : Int) (scN p1 p2 l k).grid.w) : Int).toNat) ++ (⟨#[13, 10]⟩ : ByteArray)) (by first | decide | omega | (rw [ByteArray.size_append, ByteArray.size_extract]; omega))) fun w55 hS54 => ?_)
  replace hS54 : Sys w w55 ([(b11, [iX p1, iX p2], 22)] ++ oB o ((txN p1 p2 l k).map Value.string ++ rest)) [(t21, (scN p1 p2 l (k + 1)))] := hS54
  refine ye <| x_region <| yp 2 [] .z <| yo (yB [.string (((txA l k)).extract 0 ((min ((((txA l k)).size : Int) : Int) (scN p1 p2 l k).grid.w) : Int).toNat)] 9 1 fun w56 b57 hb58 hz59 hB60 hc61 => ?_)
  have hS62 : Sys w w56 ([(b11, [iX p1, iX p2], 22), (b57, [.string (((txA l k)).extract 0 ((min ((((txA l k)).size : Int) : Int) (scN p1 p2 l k).grid.w) : Int).toNat)], 9)] ++ oB o ((txN p1 p2 l k).map Value.string ++ rest)) [(t21, (scN p1 p2 l (k + 1)))] := hS54.boxO hc61 hB60 (Nat.le_of_eq hb58.symm)
  refine yo (e_app' 9 1 16 o k oc ((txN p1 p2 l k).map Value.string) (some ⟨b57, 0, none⟩) 1 1 [.string (((txA l k)).extract 0 ((min ((((txA l k)).size : Int) : Int) (scN p1 p2 l k).grid.w) : Int).toNat)] (some 70) (k + 1) rfl ((txN p1 p2 l (k + 1)).map Value.string) (by rw [txN, List.map_append]; rfl) (by kernel_rfl) (hS62.own ho31) (Rd.all (hS62.blk 1 (b57, [.string (((txA l k)).extract 0 ((min ((((txA l k)).size : Int) : Int) (scN p1 p2 l k).grid.w) : Int).toNat)], 9) rfl)) rfl rfl (fun h => by cases h) (by constructor <;> first | omega | (simp only [maxLen]; omega)) ?_)
  intro w63 og64 cp65 hO66 hne67 hpos68 hc69
  obtain ⟨rest70, hS71, ho72⟩ := hS62.grow hO66 hne67 hpos68 hc69
  replace hS71 : Sys w w63 ([(b11, [iX p1, iX p2], 22), (b57, [.string (((txA l k)).extract 0 ((min ((((txA l k)).size : Int) : Int) (scN p1 p2 l k).grid.w) : Int).toNat)], 9)] ++ oB og64 ((txN p1 p2 l (k + 1)).map Value.string ++ rest70)) [(t21, (scN p1 p2 l (k + 1)))] := hS71
  refine yp 5 [] .z <| yE (nB (nS ?_))
  refine x_region <| yp 2 [] (.q6 (((k : Nat) : Int) + 1) .z) <| yE (fun a ha => hL28 (k + 1, og64, cp65, rest70) _ ⟨by omega, (Sys.preO (ex := [(b57, [.string (((txA l k)).extract 0 ((min ((((txA l k)).size : Int) : Int) (scN p1 p2 l k).grid.w) : Int).toNat)], 9)]) (show Sys w w63 ((_ ++ [(b57, [.string (((txA l k)).extract 0 ((min ((((txA l k)).size : Int) : Int) (scN p1 p2 l k).grid.w) : Int).toNat)], 9)]) ++ _) _ from hS71)), ho72, txN_ok hok32 hasc53⟩ (by show (((l.length : Nat) : Int)).toNat - (k + 1) < (((l.length : Nat) : Int)).toNat - k; omega) a (ha.kp [5, 6, 29, 30, 31]))
 have hkn : k = l.length := by omega
 refine x_exit (eS (then_exit (block_exit (nS ?_))))
 refine ysr ?_
 obtain ⟨g73, F74, hg75, hG76⟩ := hS30.grid (i := 0) rfl
 obtain ⟨r77, rc78, rows79, hI80⟩ := hG76
 have hlenhI80 := hI80.len
 refine yp 13 [] (.l hg75 (.l (hI80.head.c 1) (.q6 (((k : Nat) : Int) - (scN p1 p2 l k).grid.h) (.q6 ((((k : Nat) : Int) - (scN p1 p2 l k).grid.h) + 1) .z)))) <| ye <| ys <| ysr ?_
 obtain ⟨ba81, bn82, bc83, ro84, FB85, hg86, hbl87, hL88, hm89, hz90⟩ := hS30.outs (i := 0) rfl
 refine yp 8 [] (.l hg86 .z) <| ye <| yc (rI ((bn82 : Nat) : Int) (min ((max (((((k : Nat) : Int) - (scN p1 p2 l k).grid.h) + 1) : Int) 0) : Int) 20)) (fun hC91 => ?_) fun hC91 => ?_
 ·have hpp := hC91
  exact absurd hpp (by omega)
 have hpp := hC91
 refine yk <| ys <| ysr <| yp 8 [] (.l hg75 (.l (hI80.head.c 1) .z)) <| ye <| x_block <| ykeep [5, 6, 10, 98, 99] (f' := [(5, pX t21), (6, .slice (o.map at0) k oc), (10, iX (max (((((k : Nat) : Int) - (scN p1 p2 l k).grid.h) + 1) : Int) 0)), (98, iX (scN p1 p2 l k).grid.h), (99, iX 0)]) <| x_loop (σ := Nat) (fun j => [(5, pX t21), (6, .slice (o.map at0) k oc), (10, iX (max (((((k : Nat) : Int) - (scN p1 p2 l k).grid.h) + 1) : Int) 0)), (98, iX (scN p1 p2 l k).grid.h), (99, iX ((j : Nat) : Int))]) (fun j wvj => (j : Int) ≤ (scN p1 p2 l k).grid.h ∧ Sys w wvj ([(b11, [iX p1, iX p2], 22)] ++ oB o ((txN p1 p2 l k).map Value.string ++ rest)) [(t21, (scN p1 p2 l k))]) (fun j => ((scN p1 p2 l k).grid.h).toNat - j) 0 rfl ?_ ?_
 ·exact ⟨by omega, hS30⟩
 intro j w92 hI93 K94 hL95
 obtain ⟨hk96, hS97⟩ := hI93
 replace hS97 : Sys w w92 ([(b11, [iX p1, iX p2], 22)] ++ oB o ((txN p1 p2 l k).map Value.string ++ rest)) [(t21, (scN p1 p2 l k))] := hS97
 refine ysr <| yp 1 [] .z <| ye <| ys <| yc (rL ((j : Nat) : Int) (scN p1 p2 l k).grid.h) (fun hC98 => ?_) fun hC98 => ?_
 ·have hpp := hC98
  refine yk <| ys <| x_block <| ysr <| yp 2 [] .z <| ye <| ysr <| yp 1 [] .z <| ye <| ys <| ysr <| yp 6 [] (.q6 ((max (((((k : Nat) : Int) - (scN p1 p2 l k).grid.h) + 1) : Int) 0) + ((j : Nat) : Int)) .z) <| ye <| yc (rL ((max (((((k : Nat) : Int) - (scN p1 p2 l k).grid.h) + 1) : Int) 0) + ((j : Nat) : Int)) ((k : Nat) : Int)) (fun hC99 => ?_) fun hC99 => ?_
  ·have hpp := hC99
   obtain ⟨ob100, rfl⟩ := ho31.some (by omega)
   refine x_region <| yp 7 [] (.q6 ((max (((((k : Nat) : Int) - (scN p1 p2 l k).grid.h) + 1) : Int) 0) + ((j : Nat) : Int)) (.i ((max (((((k : Nat) : Int) - (scN p1 p2 l k).grid.h) + 1) : Int) 0) + ((j : Nat) : Int)) (k) (.l (o := (0 + (((max (((((k : Nat) : Int) - (scN p1 p2 l k).grid.h) + 1) : Int) 0) + ((j : Nat) : Int))).toNat * 1)) (own_str hS97 (by rw [txN_len]; omega)) .z))) <| ye <| ysr ?_
   obtain ⟨g101, F102, hg103, hG104⟩ := hS97.grid (i := 0) rfl
   obtain ⟨r105, rc106, rows107, hI108⟩ := hG104
   have hlenhI108 := hI108.len
   refine yp 5 [] (.l hg103 .z) <| yo (yQ (text_any _ _ _ (((j : Nat) : Int)) _ ⟨_, _, _, hI108⟩) fun w110 hc109 => ?_)
   have hS111 := hS97.same hc109
   refine yp 8 [] .z <| ye <| yc (rN (rY (((txtG (scN p1 p2 l k).grid (((j : Nat) : Int)))).toList == ((txA (txN p1 p2 l k) (((max (((((k : Nat) : Int) - (scN p1 p2 l k).grid.h) + 1) : Int) 0) + ((j : Nat) : Int)) : Int).toNat)).toList))) (fun hC114 => ?_) fun hC114 => ?_
   ·exact absurd hC114 (by rw [scN_text hok32 j (((max (((((k : Nat) : Int) - (scN p1 p2 l k).grid.h) + 1) : Int) 0) + ((j : Nat) : Int)) : Int).toNat (by omega) (by omega)]; decide)
   refine x_skip (nB (nS ?_))
   refine x_region <| yp 2 [] (.q6 (((j : Nat) : Int) + 1) .z) <| yE (fun a ha => hL95 (j + 1) _ ⟨by omega, hS111⟩ (by omega) a (ha.kp [5, 6, 10, 98, 99]))
  have hpp := hC99
  refine yk <| ysr ?_
  obtain ⟨g115, F116, hg117, hG118⟩ := hS97.grid (i := 0) rfl
  obtain ⟨r119, rc120, rows121, hI122⟩ := hG118
  have hlenhI122 := hI122.len
  refine yp 5 [] (.l hg117 .z) <| yo (yQ (text_any _ _ _ (((j : Nat) : Int)) _ ⟨_, _, _, hI122⟩) fun w124 hc123 => ?_)
  have hS125 := hS97.same hc123
  refine yp 8 [] .z <| ye <| yc (rN (rY (((txtG (scN p1 p2 l k).grid (((j : Nat) : Int)))).toList == (ByteArray.empty).toList))) (fun hC128 => ?_) fun hC128 => ?_
  ·exact absurd hC128 (by rw [scN_bl hok32 j (by omega) (by omega)]; decide)
  refine x_skip (nB (nS ?_))
  refine x_region <| yp 2 [] (.q6 (((j : Nat) : Int) + 1) .z) <| yE (fun a ha => hL95 (j + 1) _ ⟨by omega, hS125⟩ (by omega) a (ha.kp [5, 6, 10, 98, 99]))
 have hpp := hC98
 refine x_exit (eS (then_exit (block_exit (nS ?_))))
 refine ys <| ysr ?_
 obtain ⟨ba129, bn130, bc131, ro132, FB133, hg134, hbl135, hL136, hm137, hz138⟩ := hS97.outs (i := 0) rfl
 refine yp 6 [] (.l hg134 .z) <| ye <| x_block <| ykeep [5, 6, 10, 126, 127, 128] (f' := [(5, pX t21), (6, .slice (o.map at0) k oc), (10, iX (max (((((k : Nat) : Int) - (scN p1 p2 l k).grid.h) + 1) : Int) 0)), (126, .slice ba129 bn130 bc131), (127, iX ((bn130 : Nat) : Int)), (128, iX 0)]) <| x_loop (σ := Nat) (fun j => [(5, pX t21), (6, .slice (o.map at0) k oc), (10, iX (max (((((k : Nat) : Int) - (scN p1 p2 l k).grid.h) + 1) : Int) 0)), (126, .slice ba129 bn130 bc131), (127, iX ((bn130 : Nat) : Int)), (128, iX ((j : Nat) : Int))]) (fun j wvj => (j : Int) ≤ ((bn130 : Nat) : Int) ∧ Sys w wvj ([(b11, [iX p1, iX p2], 22)] ++ oB o ((txN p1 p2 l k).map Value.string ++ rest)) [(t21, (scN p1 p2 l k))] ∧ LinesAt wvj ba129 bn130 ro132 FB133) (fun j => bn130 - j) 0 rfl ?_ ?_
 ·exact ⟨by omega, hS97, hL136⟩
 intro j w139 hI140 K141 hL142
 obtain ⟨hk143, hS144, hx145⟩ := hI140
 replace hS144 : Sys w w139 ([(b11, [iX p1, iX p2], 22)] ++ oB o ((txN p1 p2 l k).map Value.string ++ rest)) [(t21, (scN p1 p2 l k))] := hS144
 refine ysr <| yp 1 [] .z <| ye <| ys <| yc (rL ((j : Nat) : Int) ((bn130 : Nat) : Int)) (fun hC146 => ?_) fun hC146 => ?_
 ·have hpp := hC146
  obtain ⟨ob147, rfl⟩ := ho31.some (by omega)
  obtain ⟨bb148, bo149, rfl⟩ := ba_some hz138 hx145 (by omega)
  obtain ⟨q150, hq151, hqm152, hql153⟩ := out_row (i := j) hx145 hm137 (by omega)
  have hqn := (hx145.line _ hqm152).2
  have hqw := back_len hok32 hql153
  refine yk <| ys <| x_block <| ysr <| yp 5 [] (.i ((j : Nat) : Int) (bn130) (.l (rows_cell hx145.rd hq151) .z)) <| ye <| ysr ?_
  obtain ⟨ba154, bn155, bc156, ro157, FB158, hg159, hbl160, hL161, hm162, hz163⟩ := hS144.outs (i := 0) rfl
  refine yp 13 [] (.l hg159 (.q6 ((max (((((k : Nat) : Int) - (scN p1 p2 l k).grid.h) + 1) : Int) 0) - ((bn155 : Nat) : Int)) (.q6 (((max (((((k : Nat) : Int) - (scN p1 p2 l k).grid.h) + 1) : Int) 0) - ((bn155 : Nat) : Int)) + ((j : Nat) : Int)) (.i (((max (((((k : Nat) : Int) - (scN p1 p2 l k).grid.h) + 1) : Int) 0) - ((bn155 : Nat) : Int)) + ((j : Nat) : Int)) (k) (.l (o := (0 + ((((max (((((k : Nat) : Int) - (scN p1 p2 l k).grid.h) + 1) : Int) 0) - ((bn155 : Nat) : Int)) + ((j : Nat) : Int))).toNat * 1)) (own_str hS144 (by rw [txN_len]; omega)) .z))))) <| ye <| ysr <| yp 3 [] .z <| ye <| x_block <| ykeep [5, 6, 10, 15, 126, 127, 128, 145, 146, 147] (f' := [(5, pX t21), (6, .slice (some ⟨ob147, 0, none⟩) k oc), (10, iX (max (((((k : Nat) : Int) - (scN p1 p2 l k).grid.h) + 1) : Int) 0)), (15, .string (txA (txN p1 p2 l k) ((((max (((((k : Nat) : Int) - (scN p1 p2 l k).grid.h) + 1) : Int) 0) - ((bn155 : Nat) : Int)) + ((j : Nat) : Int)) : Int).toNat)), (126, .slice (some ⟨bb148, bo149, none⟩) bn130 bc131), (127, iX ((bn130 : Nat) : Int)), (128, iX ((j : Nat) : Int)), (145, .slice (some ⟨q150.b, 0, none⟩) q150.n q150.cap), (146, iX ((q150.n : Nat) : Int)), (147, iX 0)]) <| x_loop (σ := Nat) (fun i => [(5, pX t21), (6, .slice (some ⟨ob147, 0, none⟩) k oc), (10, iX (max (((((k : Nat) : Int) - (scN p1 p2 l k).grid.h) + 1) : Int) 0)), (15, .string (txA (txN p1 p2 l k) ((((max (((((k : Nat) : Int) - (scN p1 p2 l k).grid.h) + 1) : Int) 0) - ((bn155 : Nat) : Int)) + ((j : Nat) : Int)) : Int).toNat)), (126, .slice (some ⟨bb148, bo149, none⟩) bn130 bc131), (127, iX ((bn130 : Nat) : Int)), (128, iX ((j : Nat) : Int)), (145, .slice (some ⟨q150.b, 0, none⟩) q150.n q150.cap), (146, iX ((q150.n : Nat) : Int)), (147, iX ((i : Nat) : Int))]) (fun i wvi => (i : Int) ≤ ((q150.n : Nat) : Int) ∧ Sys w wvi ([(b11, [iX p1, iX p2], 22)] ++ oB (some ob147) ((txN p1 p2 l k).map Value.string ++ rest)) [(t21, (scN p1 p2 l k))] ∧ LinesAt wvi (some ⟨bb148, bo149, none⟩) bn130 ro132 FB133) (fun i => q150.n - i) 0 rfl ?_ ?_
  ·exact ⟨by omega, hS144, hx145⟩
  intro i w164 hI165 K166 hL167
  obtain ⟨hk168, hS169, hx170⟩ := hI165
  replace hS169 : Sys w w164 ([(b11, [iX p1, iX p2], 22)] ++ oB (some ob147) ((txN p1 p2 l k).map Value.string ++ rest)) [(t21, (scN p1 p2 l k))] := hS169
  refine ysr <| yp 1 [] .z <| ye <| ys <| yc (rL ((i : Nat) : Int) ((q150.n : Nat) : Int)) (fun hC171 => ?_) fun hC171 => ?_
  ·have hpp := hC171
   have hgc := back_rune hok32 hql153 (X := ((((max (((((k : Nat) : Int) - (scN p1 p2 l k).grid.h) + 1) : Int) 0) - ((bn155 : Nat) : Int)) + ((j : Nat) : Int)) : Int).toNat) (by omega) (j := i) (by omega)
   have hbt := bt_range (txA (txN p1 p2 l k) ((((max (((((k : Nat) : Int) - (scN p1 p2 l k).grid.h) + 1) : Int) 0) - ((bn155 : Nat) : Int)) + ((j : Nat) : Int)) : Int).toNat) ((i : Nat) : Int)
   refine yk <| ys <| x_block <| ysr <| yp 3 [] (.i ((i : Nat) : Int) (q150.n) (.m (c_rune (i := ((i : Nat) : Int)) (hx170.line _ hqm152).1.rd (by omega) (by omega)) (.m (c_bold (i := ((i : Nat) : Int)) (hx170.line _ hqm152).1.rd (by omega) (by omega)) (.m (c_under (i := ((i : Nat) : Int)) (hx170.line _ hqm152).1.rd (by omega) (by omega)) (.m (c_turned (i := ((i : Nat) : Int)) (hx170.line _ hqm152).1.rd (by omega) (by omega)) (.m (c_fore (i := ((i : Nat) : Int)) (hx170.line _ hqm152).1.rd (by omega) (by omega)) (.m (c_back (i := ((i : Nat) : Int)) (hx170.line _ hqm152).1.rd (by omega) (by omega)) (.e .z)))))))) <| yo (yN [rX 0, .bool false, .bool false, .bool false, iX 0, iX 0] 46 fun w172 b173 hb174 hz175 hB176 hc177 => ?_)
   have hL178 := hx170.ch hc177 iZ
   have hnb179 : ∀ b, FB133 b → ¬ b = b173 := fun b hb e => by have := hx170.lt b hb; omega
   refine yp 5 [] .z ?_
   have hS180 : Sys w w172 ([(b11, [iX p1, iX p2], 22), (b173, [rX 0, .bool false, .bool false, .bool false, iX 0, iX 0], 46)] ++ oB (some ob147) ((txN p1 p2 l k).map Value.string ++ rest)) [(t21, (scN p1 p2 l k))] := hS169.boxO hc177 hB176 (Nat.le_of_eq hb174.symm)
   refine yo (yS (hS180.blk 1 (b173, [rX 0, .bool false, .bool false, .bool false, iX 0, iX 0], 46) rfl) fun w181 hB182 hc183 => ?_)
   have hS184 : Sys w w181 ([(b11, [iX p1, iX p2], 22), (b173, [rX (gc q150.l ((i : Nat) : Int)).rune, .bool (gc q150.l ((i : Nat) : Int)).sty.bold, .bool (gc q150.l ((i : Nat) : Int)).sty.under, .bool (gc q150.l ((i : Nat) : Int)).sty.turned, iX (gc q150.l ((i : Nat) : Int)).sty.fore, iX (gc q150.l ((i : Nat) : Int)).sty.back], 46)] ++ oB (some ob147) ((txN p1 p2 l k).map Value.string ++ rest)) [(t21, (scN p1 p2 l k))] := hS180.set 1 rfl hc183 (Blk.to hB182 (by kernel_rfl))
   have hL185 := hL178.ch hc183 hnb179
   refine ye <| ysr <| yp 1 [] .z <| ye <| ys <| ysr <| yp 4 [] .z <| ye <| yc (rL ((i : Nat) : Int) (((txA (txN p1 p2 l k) ((((max (((((k : Nat) : Int) - (scN p1 p2 l k).grid.h) + 1) : Int) 0) - ((bn155 : Nat) : Int)) + ((j : Nat) : Int)) : Int).toNat)).size : Int)) (fun hC186 => ?_) fun hC186 => ?_
   ·have hpp := hC186
    have hgc := back_rune hok32 hql153 (X := ((((max (((((k : Nat) : Int) - (scN p1 p2 l k).grid.h) + 1) : Int) 0) - ((bn155 : Nat) : Int)) + ((j : Nat) : Int)) : Int).toNat) (by omega) (j := i) (by omega)
    have hbt := bt_range (txA (txN p1 p2 l k) ((((max (((((k : Nat) : Int) - (scN p1 p2 l k).grid.h) + 1) : Int) 0) - ((bn155 : Nat) : Int)) + ((j : Nat) : Int)) : Int).toNat) ((i : Nat) : Int)
    refine x_region <| yp 5 [] (.i ((i : Nat) : Int) (((txA (txN p1 p2 l k) ((((max (((((k : Nat) : Int) - (scN p1 p2 l k).grid.h) + 1) : Int) 0) - ((bn155 : Nat) : Int)) + ((j : Nat) : Int)) : Int).toNat)).size) (.q3 (bt (txA (txN p1 p2 l k) ((((max (((((k : Nat) : Int) - (scN p1 p2 l k).grid.h) + 1) : Int) 0) - ((bn155 : Nat) : Int)) + ((j : Nat) : Int)) : Int).toNat) ((i : Nat) : Int)) .z)) <| ye <| ysr <| yp 4 [] (.l ((hS184.blk 1 (b173, [rX (gc q150.l ((i : Nat) : Int)).rune, .bool (gc q150.l ((i : Nat) : Int)).sty.bold, .bool (gc q150.l ((i : Nat) : Int)).sty.under, .bool (gc q150.l ((i : Nat) : Int)).sty.turned, iX (gc q150.l ((i : Nat) : Int)).sty.fore, iX (gc q150.l ((i : Nat) : Int)).sty.back], 46) rfl).c 0) .z) <| ye <| yc (rI (gc q150.l ((i : Nat) : Int)).rune (bt (txA (txN p1 p2 l k) ((((max (((((k : Nat) : Int) - (scN p1 p2 l k).grid.h) + 1) : Int) 0) - ((bn155 : Nat) : Int)) + ((j : Nat) : Int)) : Int).toNat) ((i : Nat) : Int))) (fun hC187 => ?_) fun hC187 => ?_
    ·exact absurd hC187 (by rw [hgc]; first | rw [if_pos (by omega)]; omega | rw [if_neg (by omega)]; omega)
    refine x_skip (nB (nS ?_))
    refine x_region <| yp 2 [] (.q6 (((i : Nat) : Int) + 1) .z) <| yE (fun a ha => hL167 (i + 1) _ ⟨by omega, (Sys.preO (ex := [(b173, [rX (gc q150.l ((i : Nat) : Int)).rune, .bool (gc q150.l ((i : Nat) : Int)).sty.bold, .bool (gc q150.l ((i : Nat) : Int)).sty.under, .bool (gc q150.l ((i : Nat) : Int)).sty.turned, iX (gc q150.l ((i : Nat) : Int)).sty.fore, iX (gc q150.l ((i : Nat) : Int)).sty.back], 46)]) (show Sys w w181 ((_ ++ [(b173, [rX (gc q150.l ((i : Nat) : Int)).rune, .bool (gc q150.l ((i : Nat) : Int)).sty.bold, .bool (gc q150.l ((i : Nat) : Int)).sty.under, .bool (gc q150.l ((i : Nat) : Int)).sty.turned, iX (gc q150.l ((i : Nat) : Int)).sty.fore, iX (gc q150.l ((i : Nat) : Int)).sty.back], 46)]) ++ _) _ from hS184)), hL185⟩ (by omega) a (ha.kp [5, 6, 10, 15, 126, 127, 128, 145, 146, 147]))
   refine yk <| ysr <| yp 4 [] (.l ((hS184.blk 1 (b173, [rX (gc q150.l ((i : Nat) : Int)).rune, .bool (gc q150.l ((i : Nat) : Int)).sty.bold, .bool (gc q150.l ((i : Nat) : Int)).sty.under, .bool (gc q150.l ((i : Nat) : Int)).sty.turned, iX (gc q150.l ((i : Nat) : Int)).sty.fore, iX (gc q150.l ((i : Nat) : Int)).sty.back], 46) rfl).c 0) .z) <| ye <| yc (rI (gc q150.l ((i : Nat) : Int)).rune 32) (fun hC188 => ?_) fun hC188 => ?_
   ·exact absurd hC188 (by rw [hgc]; first | rw [if_pos (by omega)]; omega | rw [if_neg (by omega)]; omega)
   refine x_skip (nB (nS ?_))
   refine x_region <| yp 2 [] (.q6 (((i : Nat) : Int) + 1) .z) <| yE (fun a ha => hL167 (i + 1) _ ⟨by omega, (Sys.preO (ex := [(b173, [rX (gc q150.l ((i : Nat) : Int)).rune, .bool (gc q150.l ((i : Nat) : Int)).sty.bold, .bool (gc q150.l ((i : Nat) : Int)).sty.under, .bool (gc q150.l ((i : Nat) : Int)).sty.turned, iX (gc q150.l ((i : Nat) : Int)).sty.fore, iX (gc q150.l ((i : Nat) : Int)).sty.back], 46)]) (show Sys w w181 ((_ ++ [(b173, [rX (gc q150.l ((i : Nat) : Int)).rune, .bool (gc q150.l ((i : Nat) : Int)).sty.bold, .bool (gc q150.l ((i : Nat) : Int)).sty.under, .bool (gc q150.l ((i : Nat) : Int)).sty.turned, iX (gc q150.l ((i : Nat) : Int)).sty.fore, iX (gc q150.l ((i : Nat) : Int)).sty.back], 46)]) ++ _) _ from hS184)), hL185⟩ (by omega) a (ha.kp [5, 6, 10, 15, 126, 127, 128, 145, 146, 147]))
  refine x_exit (eS (then_exit (block_exit (nB (nS ?_)))))
  refine x_region <| yp 2 [] (.q6 (((j : Nat) : Int) + 1) .z) <| yE (fun a ha => hL142 (j + 1) _ ⟨by omega, hS169, hx170⟩ (by omega) a (ha.kp [5, 6, 10, 126, 127, 128]))
 refine x_exit (eS (then_exit (block_exit (nS ?_))))
 refine ysr <| yp 1 [] .z <| ye <| x_ret (yR1 (.bool true) ?_)
 exact ⟨rfl, hS144.ch⟩
end Go.Proofs.YteoejhjfbfacdaaDoor.X
namespace Go.Proofs.YteoejhjfbfacdaaDoor
open Go.ChangeShapes Go.WideShapes Go.ChangeAt Go.RowKit
theorem ownKnobNone : ownKnob Tryd.prog.godebug = none := by kernel_rfl
abbrev laidT : List (String × DataW Unit) := [("flipbook/glyph.wide", Rows.laid_flipbook_glyph_wide), ("flipbook/glyph.signs", Rows.laid_flipbook_glyph_signs), ("math/bits.deBruijn32tab", Rows.laid_math_bits_deBruijn32tab), ("math/bits.deBruijn64tab", Rows.laid_math_bits_deBruijn64tab), ("internal/strconv.uint64pow10", Rows.laid_internal_strconv_uint64pow10), ("unicode/utf8.acceptRanges", Rows.laid_unicode_utf8_acceptRanges), ("unicode/utf8.first", Rows.laid_unicode_utf8_first)]
theorem doorMet (os : Os) (args : Array Value) : laidMetH Tryd.prog laidT ((World.laidAll Tryd.prog os laidT).forCall (fun _ _ => 0) ⟨#[], args, []⟩).memory := by
 rw [MakeChecks.laidMetH_plain _ _ _ (by kernel_rfl)]; exact laidMet_laidAll _ (by kernel_rfl) (by kernel_rfl)
theorem doorShaped (os : Os) : (World.laidAll Tryd.prog os laidT).Shaped Tryd.prog := World.shaped_of_ZipB (by kernel_rfl) (by kernel_rfl)
theorem lits_of_trod {W : World} {g n t : Nat} {k : IntKind} {e : TypeId} (he : Tryd.prog.underlying e = some (.int k)) (ce : Tryd.prog.cellsOf e = 1) {name : String} {cs : Array Value} {fuel : Nat} {l : List Int} {q : List MemPlace} (hg : Tryd.prog.globalNamed name = some g) (hv : W.var? Tryd.prog name = some cs)
  (hd : DataW.trod (H := Unit) (fun _ => ()) Tryd.prog W 0 (fun _ => true) false fuel t cs.toList = some (.agg (l.map fun n => .lit (.int k n)), q))
  (ht : Tryd.prog.underlying t = some (.array n e)) (hl : l.length = n) : ∀ r, r < l.length → W.cell? ⟨g, r, none⟩ = some (.int k (l.getD r 0)) := by
 obtain ⟨xs, m, _, ex, _, hlx, hel⟩ := DataW.trod_array ht hd
 intro r hr
 have hE := hel r (by omega)
 rw [ce, Nat.mul_one, List.getElem?_eq_getElem (by omega)] at hE
 obtain ⟨z, e1, e2, _⟩ := DataW.trod_int he hE
 have e3 : (xs.map (·.1)) = l.map fun n => .lit (.int k n) := (DataW.agg.inj (Prod.mk.inj ex).1).symm
 have e4 : (xs.map (·.1))[r]? = (l.map fun n => (DataW.lit (.int k n) : DataW Unit))[r]? := by rw [e3]
 rw [List.getElem?_map, List.getElem?_map, List.getElem?_eq_getElem (by omega : r < xs.length), List.getElem?_eq_getElem (by omega : r < l.length), e2] at e4
 have hz : z = l.getD r 0 := by
  simp only [Option.map_some, Option.some.injEq, DataW.lit.injEq, Lit.int.injEq, true_and] at e4
  rw [e4, List.getD, List.getElem?_eq_getElem (by omega : r < l.length)]; rfl
 rw [World.var?_cell hg hv r, ← hz]
 have : cs.toList[r]? = some (.int k z) := by
  have h0 : ((cs.toList.drop r).take 1)[0]? = some (.int k z) := by rw [e1]; rfl
  simpa using h0
 simpa using this
theorem pairs_of_trod {W : World} {g n t e u : Nat} {k : IntKind} {fs : Array Field} (hs : Tryd.prog.underlying e = some (.struct fs)) (h0 : ∃ f, fs[0]? = some f ∧ f.type = u ∧ f.offset = 0) (h1 : ∃ f, fs[1]? = some f ∧ f.type = u ∧ f.offset = 1) (hz : fs.size = 2) (hu : Tryd.prog.underlying u = some (.int k)) (ce : Tryd.prog.cellsOf e = 2) (cu : Tryd.prog.cellsOf u = 1)
  {name : String} {cs : Array Value} {fuel : Nat} {l : List (Int × Int)} {q : List MemPlace} (hg : Tryd.prog.globalNamed name = some g) (hv : W.var? Tryd.prog name = some cs)
  (hd : DataW.trod (H := Unit) (fun _ => ()) Tryd.prog W 0 (fun _ => true) false fuel t cs.toList = some (.agg (l.map fun p => .agg [.lit (.int k p.1), .lit (.int k p.2)]), q))
  (ht : Tryd.prog.underlying t = some (.array n e)) (hl : l.length = n) : ∀ r p, l[r]? = some p → W.cell? ⟨g, r * 2, none⟩ = some (.int k p.1) ∧ W.cell? ⟨g, r * 2 + 1, none⟩ = some (.int k p.2) := by
 obtain ⟨xs, m, _, ex, _, hlx, hel⟩ := DataW.trod_array ht hd
 intro r p hp
 have hr : r < l.length := (List.getElem?_eq_some_iff.1 hp).1
 have hE := hel r (by omega)
 rw [ce, List.getElem?_eq_getElem (by omega)] at hE
 have e3 : (xs.map (·.1)) = l.map fun p => .agg [.lit (.int k p.1), .lit (.int k p.2)] := (DataW.agg.inj (Prod.mk.inj ex).1).symm
 have e4 : (xs.map (·.1))[r]? = (l.map fun p => (DataW.agg [.lit (.int k p.1), .lit (.int k p.2)] : DataW Unit))[r]? := by rw [e3]
 rw [List.getElem?_map, List.getElem?_map, List.getElem?_eq_getElem (by omega : r < xs.length), hp] at e4
 simp only [Option.map_some, Option.some.injEq] at e4
 obtain ⟨ys, m2, _, ey, _, hly, hfy⟩ := DataW.trod_struct hs hE
 rw [ey] at e4
 have e5 := DataW.agg.inj e4
 obtain ⟨f0, hf0, t0, o0⟩ := h0
 obtain ⟨f1, hf1, t1, o1⟩ := h1
 have k0 := hfy 0 f0 hf0
 have k1 := hfy 1 f1 hf1
 rw [t0, o0, cu, List.drop_zero, List.take_take] at k0
 rw [t1, o1, cu] at k1
 have hy : ys.length = 2 := by rw [hly, hz]
 rw [List.getElem?_eq_getElem (by omega)] at k0 k1
 obtain ⟨z0, a0, b0, _⟩ := DataW.trod_int hu k0
 obtain ⟨z1, a1, b1, _⟩ := DataW.trod_int hu k1
 have c0 : (ys.map (·.1))[0]? = some (.lit (.int k p.1)) := by rw [e5]; rfl
 have c1 : (ys.map (·.1))[1]? = some (.lit (.int k p.2)) := by rw [e5]; rfl
 rw [List.getElem?_map, List.getElem?_eq_getElem (by omega), b0] at c0
 rw [List.getElem?_map, List.getElem?_eq_getElem (by omega), b1] at c1
 simp only [Option.map_some, Option.some.injEq, DataW.lit.injEq, Lit.int.injEq, true_and] at c0 c1
 subst c0 c1
 have d0 : cs.toList[r * 2]? = some (.int k p.1) := by
  have h0 : ((cs.toList.drop (r * 2)).take (min 1 2))[0]? = some (.int k p.1) := by rw [a0]; rfl
  simpa using h0
 have d1 : cs.toList[r * 2 + 1]? = some (.int k p.2) := by
  have h0 : ((((cs.toList.drop (r * 2)).take 2).drop 1).take 1)[0]? = some (.int k p.2) := by rw [a1]; rfl
  simpa using h0
 exact ⟨by rw [World.var?_cell hg hv]; simpa using d0, by rw [World.var?_cell hg hv]; simpa using d1⟩
def firstL : List Int := (List.range 256).map X.firstN
def accL : List (Int × Int) := (List.range 16).map X.accN
theorem first_at {c : Nat} (h : c < 256) : firstL.length = 256 ∧ firstL.getD c 0 = X.firstN c := by
 have e : firstL.length = 256 := by simp [firstL]
 refine ⟨e, ?_⟩
 rw [List.getD, firstL, List.getElem?_map, List.getElem?_range h]; rfl
theorem acc_at {i : Nat} (h : i < 16) : accL[i]? = some (X.accN i) := by
 rw [accL, List.getElem?_map, List.getElem?_range h]; rfl
set_option maxRecDepth 100000 in
theorem lt_of_laid {W : World} (h : laidMetH Tryd.prog laidT W) : X.LT W := by
 rw [MakeChecks.laidMetH_plain _ _ _ (by kernel_rfl)] at h
 obtain ⟨ps, ⟨g0, t0, cs0, f0, p0, q0, hg0, ht0, hv0, hd0, ⟨g1, t1, cs1, f1, p1, q1, hg1, ht1, hv1, hd1, ⟨g2, t2, cs2, f2, p2, q2, hg2, ht2, hv2, hd2, ⟨g3, t3, cs3, f3, p3, q3, hg3, ht3, hv3, hd3, ⟨g4, t4, cs4, f4, p4, q4, hg4, ht4, hv4, hd4, ⟨g5, t5, cs5, f5, p5, q5, hg5, ht5, hv5, hd5, ⟨g6, t6, cs6, f6, p6, q6, hg6, ht6, hv6, hd6, _, _⟩, _⟩, _⟩, _⟩, _⟩, _⟩, _⟩, _, _⟩ := h
 obtain rfl := Option.some.inj ((show Tryd.prog.globalNamed "flipbook/glyph.wide" = some 4 by kernel_rfl).symm.trans hg0)
 obtain rfl := Option.some.inj ((show Tryd.prog.globalNamed "flipbook/glyph.signs" = some 3 by kernel_rfl).symm.trans hg1)
 obtain rfl := Option.some.inj ((show Tryd.prog.globalNamed "internal/strconv.uint64pow10" = some 0 by kernel_rfl).symm.trans hg4)
 obtain rfl := Option.some.inj ((show Tryd.prog.globalNamed "unicode/utf8.acceptRanges" = some 2 by kernel_rfl).symm.trans hg5)
 obtain rfl := Option.some.inj ((show Tryd.prog.globalNamed "unicode/utf8.first" = some 1 by kernel_rfl).symm.trans hg6)
 obtain rfl := Option.some.inj ((show (Tryd.prog.globals[4]?).map (·.type) = some 140 by kernel_rfl).symm.trans ht0)
 obtain rfl := Option.some.inj ((show (Tryd.prog.globals[3]?).map (·.type) = some 77 by kernel_rfl).symm.trans ht1)
 obtain rfl := Option.some.inj ((show (Tryd.prog.globals[0]?).map (·.type) = some 132 by kernel_rfl).symm.trans ht4)
 obtain rfl := Option.some.inj ((show (Tryd.prog.globals[2]?).map (·.type) = some 139 by kernel_rfl).symm.trans ht5)
 obtain rfl := Option.some.inj ((show (Tryd.prog.globals[1]?).map (·.type) = some 136 by kernel_rfl).symm.trans ht6)
 have z6 : Rows.laid_unicode_utf8_first = .agg (firstL.map fun n => .lit (.int .u8 n)) := by kernel_rfl
 rw [z6] at hd6
 have z5 : (Rows.laid_unicode_utf8_acceptRanges : DataW Unit) = .agg (accL.map fun p => .agg [.lit (.int .u8 p.1), .lit (.int .u8 p.2)]) := by kernel_rfl
 rw [z5] at hd5
 refine ⟨⟨lits_of_trod (k := .i32) (e := 21) (by kernel_rfl) (by kernel_rfl) hg0 hv0 hd0 (by kernel_rfl) rfl, lits_of_trod (k := .i32) (e := 21) (by kernel_rfl) (by kernel_rfl) hg1 hv1 hd1 (by kernel_rfl) rfl⟩, ⟨fun c hc => ?_, fun i hi => ?_⟩, fun i hi => ?_⟩
 ·have := lits_of_trod (k := .u8) (e := 5) (by kernel_rfl) (by kernel_rfl) hg6 hv6 hd6 (by kernel_rfl) (first_at hc).1 c (by rw [(first_at hc).1]; exact hc)
  rw [(first_at hc).2] at this; exact this
 ·exact pairs_of_trod (k := .u8) (e := 138) (u := 5) Tryd.underlying138 ⟨_, rfl, rfl, rfl⟩ ⟨_, rfl, rfl, rfl⟩ rfl Tryd.underlying5 (by kernel_rfl) (by kernel_rfl) hg5 hv5 hd5 Tryd.underlying139 (by simp [accL]) i _ (acc_at hi)
 ·have h1 := lits_of_trod (k := .u64) (e := 109) (l := [1, 10, 100, 1000, 10000, 100000, 1000000, 10000000, 100000000, 1000000000, 10000000000, 100000000000, 1000000000000, 10000000000000, 100000000000000, 1000000000000000, 10000000000000000, 100000000000000000, 1000000000000000000, 10000000000000000000]) (by kernel_rfl) (by kernel_rfl) hg4 hv4 hd4 (by kernel_rfl) rfl i (Nat.lt_of_lt_of_le hi (by decide))
  rw [h1]
  obtain rfl | rfl | rfl : i = 0 ∨ i = 1 ∨ i = 2 := by omega
  all_goals rfl
end Go.Proofs.YteoejhjfbfacdaaDoor
namespace Go.Proofs.YteoejhjfbfacdaaDoor
open Go.ChangeShapes Go.WideShapes Go.ChangeAt Go.RowKit
section
variable {H : Type} {enc : TypeId × Value → H} {P : Program} {w : World} {base : Nat} {spare : Nat → Bool} {held : Bool}
theorem take_one {α : Type} {l : List α} {i : Nat} {x : α} (h : (l.drop i).take 1 = [x]) : l[i]? = some x := by
 have h0 : ((l.drop i).take 1)[0]? = some x := by rw [h]; rfl
 simpa using h0
theorem open_pair {r : Reach} {b0 : Nat} {t e : TypeId} {k : IntKind} {v : Value} {d : DataW H} {ps : List MemPlace} (ht : P.underlying t = some (.array 2 e)) (he : P.underlying e = some (.int k)) (ce : P.cellsOf e = 1) (ct : P.cellsOf t = 2)
  (hval : Value.okWide P w r b0 t v) (hd : DataW.Trod enc P w base spare held t v d ps) :
  ∃ a b, v = .agg #[.int k a, .int k b] ∧ d = .agg [.lit (.int k a), .lit (.int k b)] ∧ ps = [] ∧ (Lit.int k a).wf = true ∧ (Lit.int k b).wf = true := by
 obtain ⟨cs, rfl, hs, _⟩ : ∃ cs, v = .agg cs ∧ cs.size = 2 ∧ True := by
  unfold Value.okWide at hval
  rw [ht] at hval
  obtain ⟨cs, h1, h2, _⟩ := hval
  exact ⟨cs, h1, by rw [h2, ct], trivial⟩
 obtain ⟨fuel, hf⟩ := hd
 obtain ⟨xs, m, _, ex, _, hlx, hel⟩ := DataW.trod_array ht hf
 have k0 := hel 0 (by omega)
 have k1 := hel 1 (by omega)
 rw [ce, List.getElem?_eq_getElem (by omega)] at k0 k1
 obtain ⟨a, a0, b0, w0⟩ := DataW.trod_int he k0
 obtain ⟨b, a1, b1, w1⟩ := DataW.trod_int he k1
 have c0 := take_one a0
 have c1 := take_one a1
 simp only [Value.cells, Nat.zero_mul, Nat.one_mul] at c0 c1
 have hcs : cs = #[.int k a, .int k b] := by
  apply Array.ext'
  match hl : cs.toList, (show cs.toList.length = 2 by simpa using hs) with
  | [x, y], _ =>
   rw [hl] at c0 c1
   simp at c0 c1
   rw [c0, c1]
 have hxs : xs = [(.lit (.int k a), []), (.lit (.int k b), [])] := by
  match xs, hlx with
  | [x, y], _ =>
   simp at b0 b1
   rw [b0, b1]
 subst hcs hxs
 have e1 := (Prod.mk.inj ex)
 exact ⟨a, b, rfl, by simpa using e1.1, by simpa using e1.2, w0, w1⟩
theorem shut_pair {t e : TypeId} {k : IntKind} {a b : Int} (ht : P.underlying t = some (.array 2 e)) (he : P.underlying e = some (.int k)) (ce : P.cellsOf e = 1) (ct : P.cellsOf t = 2) (wa : (Lit.int k a).wf = true) (wb : (Lit.int k b).wf = true) :
  DataW.Trod enc P w base spare held t (.agg #[.int k a, .int k b]) (.agg [.lit (.int k a), .lit (.int k b)]) [] :=
 ⟨2, by simp [DataW.trod, Value.cells, ht, he, ce, ct, wa, wb, List.range_succ]⟩
end
theorem below_of_ch {w w' : World} (h : X.Ch (fun _ => False) w w') : Below w.heap.size w w' := ⟨h.os, h.tape, h.output, h.size, fun k hk => h.block k hk id⟩
theorem top_of_laid {W : World} (h : laidMetH Tryd.prog laidT W) : X.gTop ≤ W.heap.size := by
 rw [MakeChecks.laidMetH_plain _ _ _ (by kernel_rfl)] at h
 obtain ⟨ps, ⟨g0, t0, cs0, f0, p0, q0, hg0, ht0, hv0, hd0, ⟨g1, t1, cs1, f1, p1, q1, hg1, ht1, hv1, hd1, ⟨g2, t2, cs2, f2, p2, q2, hg2, ht2, hv2, hd2, ⟨g3, t3, cs3, f3, p3, q3, hg3, ht3, hv3, hd3, _, _⟩, _⟩, _⟩, _⟩, _, _⟩ := h
 obtain rfl := Option.some.inj ((show Tryd.prog.globalNamed "math/bits.deBruijn64tab" = some 6 by kernel_rfl).symm.trans hg3)
 obtain rfl := Option.some.inj ((show (Tryd.prog.globals[6]?).map (·.type) = some 151 by kernel_rfl).symm.trans ht3)
 obtain ⟨xs, m, _, _, hlen, _⟩ := DataW.trod_array Tryd.underlying151 hd3
 have hl : cs3.toList.length = 64 := hlen.trans (by kernel_rfl)
 have hc := World.var?_cell hg3 hv3 0
 have : ∃ v, cs3[0]? = some v := ⟨_, Array.getElem?_eq_getElem (by simpa using (show 0 < cs3.toList.length by omega))⟩
 obtain ⟨v, hv⟩ := this
 rw [hv] at hc
 have := X.cell_lt hc
 show 7 ≤ _
 omega
end Go.Proofs.YteoejhjfbfacdaaDoor
namespace Go.Proofs.YteoejhjfbfacdaaDoor
open Go.ChangeShapes Go.WideShapes Go.ChangeAt Go.RowKit
section
variable {H : Type} {enc : TypeId × Value → H} {w : World} {base : Nat}
set_option maxRecDepth 100000 in
theorem open_strs {r : Reach} {b0 : Nat} {t : TypeId} {v : Value} {d : DataW H} {ps : List MemPlace} (ht : Tryd.prog.underlying t = some (.slice 9)) (hval : Value.okWide Tryd.prog w r b0 t v) (hd : DataW.Trod enc Tryd.prog w base (fun _ => true) true t v d ps) :
  ∃ (a : Option Addr) (n sc : Nat) (l : List ByteArray), v = .slice a n sc ∧ (n = 0 ∨ ∃ b off, a = some ⟨b, off, none⟩) ∧ l.length = n ∧ X.Rd w a (l.map Value.string) := by
 obtain ⟨a0, n0, c0, rfl⟩ := okWide_slice ht hval
 obtain ⟨fuel, hf⟩ := hd
 have ce : Tryd.prog.cellsOf 9 = 1 := by kernel_rfl
 rcases open_strings ht Tryd.underlying9 ce hf with ⟨h0, _⟩ | ⟨a, len, cap, ss, hv, _, hl, hm, hz, _, hx, _⟩
 ·have h1 : Value.slice a0 n0 c0 = .slice none 0 0 := List.head_eq_of_cons_eq h0
  exact ⟨none, 0, 0, [], h1, .inl rfl, rfl, X.Rd.nil _ _⟩
 ·have h1 : Value.slice a0 n0 c0 = .slice (some a) len cap := List.head_eq_of_cons_eq hv
  have hz' : ss.length = cap := by simpa using hz
  refine ⟨some a, len, cap, ss.take len, h1, ?_, by rw [List.length_take]; omega, fun e => (by cases e), fun ad e j u hj => ?_⟩
  ·rcases Nat.eq_zero_or_pos len with h0 | h0
   ·exact .inl h0
   ·right
    have h3 := hx 0 (by omega)
    obtain ⟨b, off, sp⟩ := a
    cases sp with
    | none => exact ⟨b, off, rfl⟩
    | some q =>
     have h3 : w.cell? (Addr.add ⟨b, off, some q⟩ 0) = _ := h3
     unfold World.cell? Addr.add at h3
     split at h3
     ·simp at h3
     ·cases h3
  ·obtain rfl := Option.some.inj e
   rw [List.getElem?_map] at hj
   obtain ⟨s, hs, rfl⟩ := Option.map_eq_some_iff.1 hj
   rw [List.getElem?_take] at hs
   split at hs
   ·have := hx j (List.getElem?_eq_some_iff.1 hs).1
    rw [this, List.getD, hs]
    rfl
   ·cases hs
end
end Go.Proofs.YteoejhjfbfacdaaDoor
