/- What the proof of TermAnew needs, part 6: the walks of the program's functions and the plain laws about them. -/
import Derived.Test.YteoejhjfbfacdaaDoorQN5
import Derived.Test.YteoejhjfbfacdaaDoorRows
import Derived.ProofKit
import Derived.OpenShut
import Derived.ChangeArms
import Derived.LaidMore
import Derived.Lay
import Derived.Stop.Joined
import Derived.Below
import Derived.SevenTiedAt
import Derived.Deep.Slices
import Derived.Carry
set_option linter.unusedSimpArgs false
set_option linter.unusedVariables false
namespace Go.Proofs.YteoejhjfbfacdaaDoor.X
open Go Go.RowKit Go.Proofs.YteoejhjfbfacdaaDoor
theorem short_next {st : List Stp} {k : Nat} (h : ∀ i : Nat, i < k → (gs st i).text.size ≤ 600) (hb : (gs st k).text.size ≤ 600) : ∀ i : Nat, i < k + 1 → (gs st i).text.size ≤ 600 := fun i hi => by
  rcases Nat.lt_or_ge i k with h' | h'
  · exact h i h'
  · obtain rfl : i = k := by omega
    exact hb
set_option maxHeartbeats 4000000 in
theorem short_some (sb so sc : Nat) (st : List Stp) (w : World) (hT : LT w) (h7 : gTop ≤ w.heap.size) (hst : Rd w (some ⟨sb, so, none⟩) (flatS st)) : Calls Tryd.prog 22 [.slice (some ⟨sb, so, none⟩) st.length sc].toArray w fun e w' => e = .returned (.bool (shortB st)) ∧ Ch (fun _ => False) w w' := by
 have hS := Sys.start hT h7
 refine yA Tryd.func22 rfl <| ysr <| yp 1 [] .z <| ye <| ys <| ysr <| yp 3 [] .z <| ye <| yc (rL 40 ((st.length : Nat) : Int)) (fun hC10 => ?_) fun hC10 => ?_
 ·have hpp := hC10
  refine ysr <| yp 1 [] .z <| ye <| x_ret (rS (yR1 (.bool false) ?_))
  refine ⟨congrArg Ending.returned (congrArg Value.bool ?_), hS.ch⟩
  exact (Bool.eq_false_iff.2 fun h => by have := (shortB_iff.1 h).1; omega).symm
 have hpp := hC10
 refine yk <| ys <| ysr <| yp 3 [] .z <| ye <| x_block <| ykeep [8, 9, 10] (f' := [(8, .slice (some ⟨sb, so, none⟩) st.length sc), (9, iX ((st.length : Nat) : Int)), (10, iX 0)]) <| x_loop (σ := Nat) (fun k => [(8, .slice (some ⟨sb, so, none⟩) st.length sc), (9, iX ((st.length : Nat) : Int)), (10, iX ((k : Nat) : Int))]) (fun k wv => (k : Int) ≤ ((st.length : Nat) : Int) ∧ Sys w wv [] [] ∧ ∀ i : Nat, i < k → (gs st i).text.size ≤ 600) (fun k => (((st.length : Nat) : Int)).toNat - k) 0 rfl ?_ ?_
 ·exact ⟨by omega, hS, fun i hi => absurd hi (Nat.not_lt_zero i)⟩
 intro k w11 hI12 K13 hL14
 obtain ⟨hk15, hS16, hx17⟩ := hI12
 replace hS16 : Sys w w11 [] [] := hS16
 refine ysr <| yp 1 [] .z <| ye <| ys <| yc (rL ((k : Nat) : Int) ((st.length : Nat) : Int)) (fun hC18 => ?_) fun hC18 => ?_
 ·have hpp := hC18
  refine yk <| ys <| x_block <| ysr <| yp 2 [] (.i ((k : Nat) : Int) (st.length) (.m (s_text (k := k) (Ch.rd hS16.ch hst id) (by omega)) (.m (s_w (k := k) (Ch.rd hS16.ch hst id) (by omega)) (.m (s_h (k := k) (Ch.rd hS16.ch hst id) (by omega)) (.e .z))))) <| yo (yN [.string ByteArray.empty, iX 0, iX 0] 65 fun w19 b20 hb21 hz22 hB23 hc24 => ?_)
  have hS25 : Sys w w19 [(b20, [.string ByteArray.empty, iX 0, iX 0], 65)] [] := hS16.box hc24 hB23 (Nat.le_of_eq hb21.symm)
  refine yo (yS (hS25.blk 0 (b20, [.string ByteArray.empty, iX 0, iX 0], 65) rfl) fun w26 hB27 hc28 => ?_)
  have hS29 : Sys w w26 [(b20, [.string (gs st k).text, iX (gs st k).w, iX (gs st k).h], 65)] [] := hS25.set 0 rfl hc28 (Blk.to hB27 (by kernel_rfl))
  refine ye <| ysr <| yp 4 [] (.l ((hS29.blk 0 (b20, [.string (gs st k).text, iX (gs st k).w, iX (gs st k).h], 65) rfl).c 0) .z) <| ye <| yc (rL 600 (((gs st k).text).size : Int)) (fun hC30 => ?_) fun hC30 => ?_
  ·have hpp := hC30
   refine ysr <| yp 1 [] .z <| ye <| x_ret (rB (rS (then_ret (rB (rS (yR1 (.bool false) ?_))))))
   refine ⟨congrArg Ending.returned (congrArg Value.bool ?_), hS29.ch⟩
   exact (Bool.eq_false_iff.2 fun h => by have := (shortB_iff.1 h).2 k (by omega); omega).symm
  have hpp := hC30
  refine x_skip (nB (nS ?_))
  refine x_region <| yp 2 [] (.q6 (((k : Nat) : Int) + 1) .z) <| yE (fun a ha => hL14 (k + 1) _ ⟨by omega, (Sys.pre (bs' := [(b20, [.string (gs st k).text, iX (gs st k).w, iX (gs st k).h], 65)]) (show Sys w w26 (_ ++ [(b20, [.string (gs st k).text, iX (gs st k).w, iX (gs st k).h], 65)]) _ from hS29)), short_next hx17 (by omega)⟩ (by omega) a (ha.kp [8, 9, 10]))
 have hpp := hC18
 refine x_exit (eS (then_exit (block_exit (nS ?_))))
 refine ysr <| yp 1 [] .z <| ye <| x_ret (yR1 (.bool true) ?_)
 refine ⟨congrArg Ending.returned (congrArg Value.bool ?_), hS16.ch⟩
 exact (shortB_iff.2 ⟨by omega, fun i hi => hx17 i (by omega)⟩).symm
set_option maxHeartbeats 4000000 in
theorem short_nil (a : Option Addr) (sc : Nat) (w : World) (hT : LT w) (h7 : gTop ≤ w.heap.size) : Calls Tryd.prog 22 [.slice a 0 sc].toArray w fun e w' => e = .returned (.bool (shortB [])) ∧ Ch (fun _ => False) w w' := by
 have hS := Sys.start hT h7
 refine yA Tryd.func22 rfl <| ysr <| yp 1 [] .z <| ye <| ys <| ysr <| yp 3 [] .z <| ye <| ycf <| yk <| ys <| ysr <| yp 3 [] .z <| ye <| x_block <| yU 1 (yU1 ?_)
 refine ysr <| yp 1 [] .z <| ye <| ys <| ycf <| x_exit (eS (then_exit (block_exit (nS ?_))))
 refine ysr <| yp 1 [] .z <| ye <| x_ret (yR1 (.bool true) ?_)
 exact ⟨rfl, hS.ch⟩
set_option maxHeartbeats 4000000 in
theorem anew_some (p1 p2 : Int) (sb so sc : Nat) (st : List Stp) (w : World) (hT : LT w) (h7 : gTop ≤ w.heap.size) (hst : Rd w (some ⟨sb, so, none⟩) (flatS st)) : Calls Tryd.prog 9 [.agg #[.int .i64 p1, .int .i64 p2], .slice (some ⟨sb, so, none⟩) st.length sc].toArray w fun e w' => e = .returned (.bool true) ∧ Ch (fun _ => False) w w' := by
 have hS := Sys.start hT h7
 refine yA Tryd.func9 rfl <| ysr <| yo (yN [iX p1, iX p2] 22 fun w10 b11 hb12 hz13 hB14 hc15 => ?_)
 refine yp 2 [] .z <| ye <| ys <| ysr ?_
 have hS16 : Sys w w10 [(b11, [iX p1, iX p2], 22)] [] := hS.box hc15 hB14 (Nat.le_of_eq hb12.symm)
 refine yo (yQ (lawfit_any _ hS16.lt (Nat.le_trans hS16.top hS16.ch.size)) fun w18 hc17 => ?_)
 have hS19 := hS16.same hc17
 refine yp 2 [] .z <| ye <| ycf <| yk <| ys <| ysr <| yp 1 [] .z <| yo (yQ (short_some sb so sc st _ hS19.lt (Nat.le_trans hS19.top hS19.ch.size) (Ch.rd hS19.ch hst id)) fun w21 hc20 => ?_)
 have hS22 := hS19.same hc20
 refine yp 3 [] .z <| ye <| yc (rN (rY (shortB st))) (fun hC23 => ?_) fun hC23 => ?_
 ·refine ysr <| yp 1 [] .z <| ye <| x_ret (rS (yR1 (.bool true) ?_))
  exact ⟨rfl, hS22.ch⟩
 have hsh := shortB_iff.1 hC23
 refine yk <| ysr <| yp 4 [] (.i 0 (2) (.l ((hS22.blk 0 (b11, [iX p1, iX p2], 22) rfl).c 0) (.i 1 (2) (.l ((hS22.blk 0 (b11, [iX p1, iX p2], 22) rfl).c 1) .z)))) <| yo (yC (hS22.new (p1) (p2)) ?_)
 rintro _ w27 ⟨t24, rfl, hS25, hc26⟩
 refine ⟨_, rfl, ?_⟩
 replace hS25 : Sys w w27 [(b11, [iX p1, iX p2], 22)] [(t24, (startT zeroT (p1) (p2)))] := hS25
 refine yp 6 [] .z <| ye <| ys <| ysr <| yp 3 [] .z <| ye <| x_block <| ykeep [5, 20, 21, 22] (f' := [(5, pX t24), (20, .slice (some ⟨sb, so, none⟩) st.length sc), (21, iX ((st.length : Nat) : Int)), (22, iX 0)]) <| x_loop (σ := Nat) (fun k => [(5, pX t24), (20, .slice (some ⟨sb, so, none⟩) st.length sc), (21, iX ((st.length : Nat) : Int)), (22, iX ((k : Nat) : Int))]) (fun k wv => (k : Int) ≤ ((st.length : Nat) : Int) ∧ Sys w wv [(b11, [iX p1, iX p2], 22)] [(t24, (doN (startT zeroT (p1) (p2)) st k))]) (fun k => (((st.length : Nat) : Int)).toNat - k) 0 rfl ?_ ?_
 ·exact ⟨by omega, hS25⟩
 intro k w28 hI29 K30 hL31
 obtain ⟨hk32, hS33⟩ := hI29
 replace hS33 : Sys w w28 [(b11, [iX p1, iX p2], 22)] [(t24, (doN (startT zeroT (p1) (p2)) st k))] := hS33
 refine ysr <| yp 1 [] .z <| ye <| ys <| yc (rL ((k : Nat) : Int) ((st.length : Nat) : Int)) (fun hC34 => ?_) fun hC34 => ?_
 ·have hpp := hC34
  refine yk <| ys <| x_block <| ysr <| yp 2 [] (.i ((k : Nat) : Int) (st.length) (.m (s_text (k := k) (Ch.rd hS33.ch hst id) (by omega)) (.m (s_w (k := k) (Ch.rd hS33.ch hst id) (by omega)) (.m (s_h (k := k) (Ch.rd hS33.ch hst id) (by omega)) (.e .z))))) <| yo (yN [.string ByteArray.empty, iX 0, iX 0] 65 fun w35 b36 hb37 hz38 hB39 hc40 => ?_)
  have hS41 : Sys w w35 [(b11, [iX p1, iX p2], 22), (b36, [.string ByteArray.empty, iX 0, iX 0], 65)] [(t24, (doN (startT zeroT (p1) (p2)) st k))] := hS33.box hc40 hB39 (Nat.le_of_eq hb37.symm)
  refine yo (yS (hS41.blk 1 (b36, [.string ByteArray.empty, iX 0, iX 0], 65) rfl) fun w42 hB43 hc44 => ?_)
  have hS45 : Sys w w42 [(b11, [iX p1, iX p2], 22), (b36, [.string (gs st k).text, iX (gs st k).w, iX (gs st k).h], 65)] [(t24, (doN (startT zeroT (p1) (p2)) st k))] := hS41.set 1 rfl hc44 (Blk.to hB43 (by kernel_rfl))
  refine ye <| x_region <| yp 2 [] (.a ((hS45.blk 1 (b36, [.string (gs st k).text, iX (gs st k).w, iX (gs st k).h], 65) rfl).cs 0 3) .z) <| yo (yQ (hS45.do (i := 0) rfl (gs st k) (by have := hsh.2 k (by omega); omega)) fun w47 hS46 => ?_)
  replace hS46 : Sys w w47 [(b11, [iX p1, iX p2], 22), (b36, [.string (gs st k).text, iX (gs st k).w, iX (gs st k).h], 65)] [(t24, (doT (doN (startT zeroT (p1) (p2)) st k) (gs st k)))] := hS46
  refine yE (nB (nS ?_))
  refine x_region <| yp 2 [] (.q6 (((k : Nat) : Int) + 1) .z) <| yE (fun a ha => hL31 (k + 1) _ ⟨by omega, (Sys.pre (bs' := [(b36, [.string (gs st k).text, iX (gs st k).w, iX (gs st k).h], 65)]) (show Sys w w47 (_ ++ [(b36, [.string (gs st k).text, iX (gs st k).w, iX (gs st k).h], 65)]) _ from hS46))⟩ (by omega) a (ha.kp [5, 20, 21, 22]))
 have hpp := hC34
 refine x_exit (eS (then_exit (block_exit (nS ?_))))
 refine ysr <| yp 5 [] (.l (v := .string (doN (startT zeroT (p1) (p2)) st k).reply) (hS33.cell (i := 0) (t := t24) (T := (doN (startT zeroT (p1) (p2)) st k)) rfl 107 (fun _ _ _ _ => by kernel_rfl)) .z) <| ye <| ysr <| yp 1 [] .z <| yo (yQ (hS33.write (i := 0) rfl (⟨#[24, 27, 99]⟩ : ByteArray) (by first | decide | omega)) fun w49 hS48 => ?_)
 replace hS48 : Sys w w49 [(b11, [iX p1, iX p2], 22)] [(t24, (writeT (doN (startT zeroT (p1) (p2)) st k) (⟨#[24, 27, 99]⟩ : ByteArray)))] := hS48
 refine ye <| ysr <| yp 1 [] .z <| yo (yQ (hS48.take (i := 0) rfl) fun w51 hS50 => ?_)
 replace hS50 : Sys w w51 [(b11, [iX p1, iX p2], 22)] [(t24, ({ (writeT (doN (startT zeroT (p1) (p2)) st k) (⟨#[24, 27, 99]⟩ : ByteArray)) with reply := ByteArray.empty } : TS))] := hS50
 refine yp 5 [] .z <| yw [40] (rY (((writeT (doN (startT zeroT (p1) (p2)) st k) (⟨#[24, 27, 99]⟩ : ByteArray)).reply).toList == ((doN (startT zeroT (p1) (p2)) st k).reply).toList)) (fun hC52 => ?_) fun hC52 => ?_
 ·refine yp 6 [] .z <| yo (yQ (hS50.take (i := 0) rfl) fun w54 hS53 => ?_)
  replace hS53 : Sys w w54 [(b11, [iX p1, iX p2], 22)] [(t24, ({ (writeT (doN (startT zeroT (p1) (p2)) st k) (⟨#[24, 27, 99]⟩ : ByteArray)) with reply := ByteArray.empty } : TS))] := hS53
  refine yp 10 [] .z <| ye <| ys <| yD [17, 18] fun w55 hH56 hc57 => ?_
  have hS58 := hS53.same hc57
  refine yd [0, 1] [] .z <| yv [46] (rY ((({ (writeT (doN (startT zeroT (p1) (p2)) st k) (⟨#[24, 27, 99]⟩ : ByteArray)) with reply := ByteArray.empty } : TS).reply).toList == (ByteArray.empty).toList)) (fun hC59 => ?_) fun hC59 => ?_
  ·obtain ⟨g60, F61, hg62, hG63⟩ := hS58.grid (i := 0) rfl
   obtain ⟨r64, rc65, rows66, hI67⟩ := hG63
   have hlenhI67 := hI67.len
   refine yd (uL 2 15) [] (.l hg62 (.l (hI67.head.c 0) (.l hg62 (.l (hI67.head.c 1) .z)))) <| yK 17 (yC (hS58.new (({ (writeT (doN (startT zeroT (p1) (p2)) st k) (⟨#[24, 27, 99]⟩ : ByteArray)) with reply := ByteArray.empty } : TS).grid.w) (({ (writeT (doN (startT zeroT (p1) (p2)) st k) (⟨#[24, 27, 99]⟩ : ByteArray)) with reply := ByteArray.empty } : TS).grid.h)) ?_)
   rintro _ w71 ⟨t68, rfl, hS69, hc70⟩
   refine ⟨_, rfl, ?_⟩
   replace hS69 : Sys w w71 [(b11, [iX p1, iX p2], 22)] [(t24, ({ (writeT (doN (startT zeroT (p1) (p2)) st k) (⟨#[24, 27, 99]⟩ : ByteArray)) with reply := ByteArray.empty } : TS)), (t68, (startT zeroT (({ (writeT (doN (startT zeroT (p1) (p2)) st k) (⟨#[24, 27, 99]⟩ : ByteArray)) with reply := ByteArray.empty } : TS).grid.w) (({ (writeT (doN (startT zeroT (p1) (p2)) st k) (⟨#[24, 27, 99]⟩ : ByteArray)) with reply := ByteArray.empty } : TS).grid.h)))] := hS69
   refine x_killed <| yK 18 (yQ (hS69.alike (i := 0) (j := 1) rfl rfl) fun w73 hS72 => ?_)
   replace hS72 : Sys w w73 [(b11, [iX p1, iX p2], 22)] [(t24, ({ (writeT (doN (startT zeroT (p1) (p2)) st k) (⟨#[24, 27, 99]⟩ : ByteArray)) with reply := ByteArray.empty } : TS)), (t68, (startT zeroT (({ (writeT (doN (startT zeroT (p1) (p2)) st k) (⟨#[24, 27, 99]⟩ : ByteArray)) with reply := ByteArray.empty } : TS).grid.w) (({ (writeT (doN (startT zeroT (p1) (p2)) st k) (⟨#[24, 27, 99]⟩ : ByteArray)) with reply := ByteArray.empty } : TS).grid.h)))] := hS72
   refine x_killed <| yd [19, 20] [] .z <| yDe (nS ?_)
   refine x_ret (yR1 (.bool (alikeB ({ (writeT (doN (startT zeroT (p1) (p2)) st k) (⟨#[24, 27, 99]⟩ : ByteArray)) with reply := ByteArray.empty } : TS) (startT zeroT (({ (writeT (doN (startT zeroT (p1) (p2)) st k) (⟨#[24, 27, 99]⟩ : ByteArray)) with reply := ByteArray.empty } : TS).grid.w) (({ (writeT (doN (startT zeroT (p1) (p2)) st k) (⟨#[24, 27, 99]⟩ : ByteArray)) with reply := ByteArray.empty } : TS).grid.h)))) ?_)
   refine ⟨congrArg Ending.returned (congrArg Value.bool ?_), hS72.ch⟩
   exact alikeB_parts (anew_way (hS33.fine (i := 0) rfl) (gr_doN (gr_zero p1 p2) st _)).2.1
  exact absurd hC59 (by show ¬ (ByteArray.empty.toList == ByteArray.empty.toList) = false; simp)
 exact absurd hC52 (by rw [(anew_way (hS33.fine (i := 0) rfl) (gr_doN (gr_zero p1 p2) st _)).1]; simp)
set_option maxHeartbeats 4000000 in
theorem anew_nil (p1 p2 : Int) (a : Option Addr) (sc : Nat) (w : World) (hT : LT w) (h7 : gTop ≤ w.heap.size) : Calls Tryd.prog 9 [.agg #[.int .i64 p1, .int .i64 p2], .slice a 0 sc].toArray w fun e w' => e = .returned (.bool true) ∧ Ch (fun _ => False) w w' := by
 have hS := Sys.start hT h7
 refine yA Tryd.func9 rfl <| ysr <| yo (yN [iX p1, iX p2] 22 fun w10 b11 hb12 hz13 hB14 hc15 => ?_)
 refine yp 2 [] .z <| ye <| ys <| ysr ?_
 have hS16 : Sys w w10 [(b11, [iX p1, iX p2], 22)] [] := hS.box hc15 hB14 (Nat.le_of_eq hb12.symm)
 refine yo (yQ (lawfit_any _ hS16.lt (Nat.le_trans hS16.top hS16.ch.size)) fun w18 hc17 => ?_)
 have hS19 := hS16.same hc17
 refine yp 2 [] .z <| ye <| ycf <| yk <| ys <| ysr <| yp 1 [] .z <| yo (yQ (short_nil a sc _ hS19.lt (Nat.le_trans hS19.top hS19.ch.size)) fun w21 hc20 => ?_)
 have hS22 := hS19.same hc20
 refine yp 3 [] .z <| ye <| yc (rN (rY (shortB []))) (fun hC23 => ?_) fun hC23 => ?_
 ·refine ysr <| yp 1 [] .z <| ye <| x_ret (rS (yR1 (.bool true) ?_))
  exact ⟨rfl, hS22.ch⟩
 have hsh := shortB_iff.1 hC23
 refine yk <| ysr <| yp 4 [] (.i 0 (2) (.l ((hS22.blk 0 (b11, [iX p1, iX p2], 22) rfl).c 0) (.i 1 (2) (.l ((hS22.blk 0 (b11, [iX p1, iX p2], 22) rfl).c 1) .z)))) <| yo (yC (hS22.new (p1) (p2)) ?_)
 rintro _ w27 ⟨t24, rfl, hS25, hc26⟩
 refine ⟨_, rfl, ?_⟩
 replace hS25 : Sys w w27 [(b11, [iX p1, iX p2], 22)] [(t24, (startT zeroT (p1) (p2)))] := hS25
 refine yp 6 [] .z <| ye <| ys <| ysr <| yp 3 [] .z <| ye <| x_block <| yU 1 (yU1 ?_)
 refine ysr <| yp 1 [] .z <| ye <| ys <| ycf <| x_exit (eS (then_exit (block_exit (nS ?_))))
 refine ysr <| yp 5 [] (.l (v := .string (startT zeroT (p1) (p2)).reply) (hS25.cell (i := 0) (t := t24) (T := (startT zeroT (p1) (p2))) rfl 107 (fun _ _ _ _ => by kernel_rfl)) .z) <| ye <| ysr <| yp 1 [] .z <| yo (yQ (hS25.write (i := 0) rfl (⟨#[24, 27, 99]⟩ : ByteArray) (by first | decide | omega)) fun w29 hS28 => ?_)
 replace hS28 : Sys w w29 [(b11, [iX p1, iX p2], 22)] [(t24, (writeT (startT zeroT (p1) (p2)) (⟨#[24, 27, 99]⟩ : ByteArray)))] := hS28
 refine ye <| ysr <| yp 1 [] .z <| yo (yQ (hS28.take (i := 0) rfl) fun w31 hS30 => ?_)
 replace hS30 : Sys w w31 [(b11, [iX p1, iX p2], 22)] [(t24, ({ (writeT (startT zeroT (p1) (p2)) (⟨#[24, 27, 99]⟩ : ByteArray)) with reply := ByteArray.empty } : TS))] := hS30
 refine yp 5 [] .z <| yw [40] (rY (((writeT (startT zeroT (p1) (p2)) (⟨#[24, 27, 99]⟩ : ByteArray)).reply).toList == ((startT zeroT (p1) (p2)).reply).toList)) (fun hC32 => ?_) fun hC32 => ?_
 ·refine yp 6 [] .z <| yo (yQ (hS30.take (i := 0) rfl) fun w34 hS33 => ?_)
  replace hS33 : Sys w w34 [(b11, [iX p1, iX p2], 22)] [(t24, ({ (writeT (startT zeroT (p1) (p2)) (⟨#[24, 27, 99]⟩ : ByteArray)) with reply := ByteArray.empty } : TS))] := hS33
  refine yp 10 [] .z <| ye <| ys <| yD [17, 18] fun w35 hH36 hc37 => ?_
  have hS38 := hS33.same hc37
  refine yd [0, 1] [] .z <| yv [46] (rY ((({ (writeT (startT zeroT (p1) (p2)) (⟨#[24, 27, 99]⟩ : ByteArray)) with reply := ByteArray.empty } : TS).reply).toList == (ByteArray.empty).toList)) (fun hC39 => ?_) fun hC39 => ?_
  ·obtain ⟨g40, F41, hg42, hG43⟩ := hS38.grid (i := 0) rfl
   obtain ⟨r44, rc45, rows46, hI47⟩ := hG43
   have hlenhI47 := hI47.len
   refine yd (uL 2 15) [] (.l hg42 (.l (hI47.head.c 0) (.l hg42 (.l (hI47.head.c 1) .z)))) <| yK 17 (yC (hS38.new (({ (writeT (startT zeroT (p1) (p2)) (⟨#[24, 27, 99]⟩ : ByteArray)) with reply := ByteArray.empty } : TS).grid.w) (({ (writeT (startT zeroT (p1) (p2)) (⟨#[24, 27, 99]⟩ : ByteArray)) with reply := ByteArray.empty } : TS).grid.h)) ?_)
   rintro _ w51 ⟨t48, rfl, hS49, hc50⟩
   refine ⟨_, rfl, ?_⟩
   replace hS49 : Sys w w51 [(b11, [iX p1, iX p2], 22)] [(t24, ({ (writeT (startT zeroT (p1) (p2)) (⟨#[24, 27, 99]⟩ : ByteArray)) with reply := ByteArray.empty } : TS)), (t48, (startT zeroT (({ (writeT (startT zeroT (p1) (p2)) (⟨#[24, 27, 99]⟩ : ByteArray)) with reply := ByteArray.empty } : TS).grid.w) (({ (writeT (startT zeroT (p1) (p2)) (⟨#[24, 27, 99]⟩ : ByteArray)) with reply := ByteArray.empty } : TS).grid.h)))] := hS49
   refine x_killed <| yK 18 (yQ (hS49.alike (i := 0) (j := 1) rfl rfl) fun w53 hS52 => ?_)
   replace hS52 : Sys w w53 [(b11, [iX p1, iX p2], 22)] [(t24, ({ (writeT (startT zeroT (p1) (p2)) (⟨#[24, 27, 99]⟩ : ByteArray)) with reply := ByteArray.empty } : TS)), (t48, (startT zeroT (({ (writeT (startT zeroT (p1) (p2)) (⟨#[24, 27, 99]⟩ : ByteArray)) with reply := ByteArray.empty } : TS).grid.w) (({ (writeT (startT zeroT (p1) (p2)) (⟨#[24, 27, 99]⟩ : ByteArray)) with reply := ByteArray.empty } : TS).grid.h)))] := hS52
   refine x_killed <| yd [19, 20] [] .z <| yDe (nS ?_)
   refine x_ret (yR1 (.bool (alikeB ({ (writeT (startT zeroT (p1) (p2)) (⟨#[24, 27, 99]⟩ : ByteArray)) with reply := ByteArray.empty } : TS) (startT zeroT (({ (writeT (startT zeroT (p1) (p2)) (⟨#[24, 27, 99]⟩ : ByteArray)) with reply := ByteArray.empty } : TS).grid.w) (({ (writeT (startT zeroT (p1) (p2)) (⟨#[24, 27, 99]⟩ : ByteArray)) with reply := ByteArray.empty } : TS).grid.h)))) ?_)
   refine ⟨congrArg Ending.returned (congrArg Value.bool ?_), hS52.ch⟩
   exact alikeB_parts (anew_way (hS25.fine (i := 0) rfl) (gr_zero p1 p2)).2.1
  exact absurd hC39 (by show ¬ (ByteArray.empty.toList == ByteArray.empty.toList) = false; simp)
 exact absurd hC32 (by rw [(anew_way (hS25.fine (i := 0) rfl) (gr_zero p1 p2)).1]; simp)
theorem anew_any (p1 p2 : Int) (a : Option Addr) (n sc : Nat) (st : List Stp) (w : World) (hT : LT w) (h7 : gTop ≤ w.heap.size) (ha : n = 0 ∨ ∃ b off, a = some ⟨b, off, none⟩) (hn : st.length = n) (hst : Rd w a (flatS st)) :
    Calls Tryd.prog 9 [.agg #[iX p1, iX p2], .slice a n sc].toArray w fun e w' => e = .returned (.bool true) ∧ Ch (fun _ => False) w w' := by
  rcases ha with rfl | ⟨b, off, rfl⟩
  · exact anew_nil p1 p2 a sc w hT h7
  · subst hn; exact anew_some p1 p2 b off sc st w hT h7 hst
end Go.Proofs.YteoejhjfbfacdaaDoor.X
namespace Go.Proofs.YteoejhjfbfacdaaDoor
open Go.ChangeShapes Go.WideShapes Go.ChangeAt Go.RowKit
theorem ownKnobNone : ownKnob Tryd.prog.godebug = none := by kernel_rfl
abbrev laidT : List (String × DataW Unit) := [("flipbook/glyph.wide", Rows.laid_flipbook_glyph_wide), ("flipbook/glyph.signs", Rows.laid_flipbook_glyph_signs), ("math/bits.deBruijn32tab", Rows.laid_math_bits_deBruijn32tab), ("math/bits.deBruijn64tab", Rows.laid_math_bits_deBruijn64tab), ("internal/strconv.uint64pow10", Rows.laid_internal_strconv_uint64pow10), ("unicode/utf8.acceptRanges", Rows.laid_unicode_utf8_acceptRanges), ("unicode/utf8.first", Rows.laid_unicode_utf8_first)]
theorem doorMet (os : Os) (args : Array Value) : laidMetH Tryd.prog laidT ((World.laidAll Tryd.prog os laidT).forCall (fun _ _ => 0) ⟨#[], args, []⟩).memory := by
 rw [MakeChecks.laidMetH_plain _ _ _ (by kernel_rfl)]; exact laidMet_laidAll _ (by kernel_rfl) (by kernel_rfl)
theorem doorShaped (os : Os) : (World.laidAll Tryd.prog os laidT).Shaped Tryd.prog := World.shaped_of_ZipB (by kernel_rfl) (by kernel_rfl)
theorem lits_of_trod {W : World} {g n t : Nat} {k : IntKind} {e : TypeId} (he : Tryd.prog.underlying e = some (.int k)) (ce : Tryd.prog.cellsOf e = 1) {name : String} {cs : Array Value} {fuel : Nat} {l : List Int} {q : List MemPlace} (hg : Tryd.prog.globalNamed name = some g) (hv : W.var? Tryd.prog name = some cs)
  (hd : DataW.trod (H := Unit) (fun _ => ()) Tryd.prog W 0 (fun _ => true) false fuel t cs.toList = some (.agg (l.map fun n => .lit (.int k n)), q))
  (ht : Tryd.prog.underlying t = some (.array n e)) (hl : l.length = n) : ∀ r, r < l.length → W.cell? ⟨g, r, none⟩ = some (.int k (l.getD r 0)) := by
 obtain ⟨xs, m, _, ex, _, hlx, hel⟩ := DataW.trod_array ht hd
 intro r hr
 have hE := hel r (by omega)
 rw [ce, Nat.mul_one, List.getElem?_eq_getElem (by omega)] at hE
 obtain ⟨z, e1, e2, _⟩ := DataW.trod_int he hE
 have e3 : (xs.map (·.1)) = l.map fun n => .lit (.int k n) := (DataW.agg.inj (Prod.mk.inj ex).1).symm
 have e4 : (xs.map (·.1))[r]? = (l.map fun n => (DataW.lit (.int k n) : DataW Unit))[r]? := by rw [e3]
 rw [List.getElem?_map, List.getElem?_map, List.getElem?_eq_getElem (by omega : r < xs.length), List.getElem?_eq_getElem (by omega : r < l.length), e2] at e4
 have hz : z = l.getD r 0 := by
  simp only [Option.map_some, Option.some.injEq, DataW.lit.injEq, Lit.int.injEq, true_and] at e4
  rw [e4, List.getD, List.getElem?_eq_getElem (by omega : r < l.length)]; rfl
 rw [World.var?_cell hg hv r, ← hz]
 have : cs.toList[r]? = some (.int k z) := by
  have h0 : ((cs.toList.drop r).take 1)[0]? = some (.int k z) := by rw [e1]; rfl
  simpa using h0
 simpa using this
theorem pairs_of_trod {W : World} {g n t e u : Nat} {k : IntKind} {fs : Array Field} (hs : Tryd.prog.underlying e = some (.struct fs)) (h0 : ∃ f, fs[0]? = some f ∧ f.type = u ∧ f.offset = 0) (h1 : ∃ f, fs[1]? = some f ∧ f.type = u ∧ f.offset = 1) (hz : fs.size = 2) (hu : Tryd.prog.underlying u = some (.int k)) (ce : Tryd.prog.cellsOf e = 2) (cu : Tryd.prog.cellsOf u = 1)
  {name : String} {cs : Array Value} {fuel : Nat} {l : List (Int × Int)} {q : List MemPlace} (hg : Tryd.prog.globalNamed name = some g) (hv : W.var? Tryd.prog name = some cs)
  (hd : DataW.trod (H := Unit) (fun _ => ()) Tryd.prog W 0 (fun _ => true) false fuel t cs.toList = some (.agg (l.map fun p => .agg [.lit (.int k p.1), .lit (.int k p.2)]), q))
  (ht : Tryd.prog.underlying t = some (.array n e)) (hl : l.length = n) : ∀ r p, l[r]? = some p → W.cell? ⟨g, r * 2, none⟩ = some (.int k p.1) ∧ W.cell? ⟨g, r * 2 + 1, none⟩ = some (.int k p.2) := by
 obtain ⟨xs, m, _, ex, _, hlx, hel⟩ := DataW.trod_array ht hd
 intro r p hp
 have hr : r < l.length := (List.getElem?_eq_some_iff.1 hp).1
 have hE := hel r (by omega)
 rw [ce, List.getElem?_eq_getElem (by omega)] at hE
 have e3 : (xs.map (·.1)) = l.map fun p => .agg [.lit (.int k p.1), .lit (.int k p.2)] := (DataW.agg.inj (Prod.mk.inj ex).1).symm
 have e4 : (xs.map (·.1))[r]? = (l.map fun p => (DataW.agg [.lit (.int k p.1), .lit (.int k p.2)] : DataW Unit))[r]? := by rw [e3]
 rw [List.getElem?_map, List.getElem?_map, List.getElem?_eq_getElem (by omega : r < xs.length), hp] at e4
 simp only [Option.map_some, Option.some.injEq] at e4
 obtain ⟨ys, m2, _, ey, _, hly, hfy⟩ := DataW.trod_struct hs hE
 rw [ey] at e4
 have e5 := DataW.agg.inj e4
 obtain ⟨f0, hf0, t0, o0⟩ := h0
 obtain ⟨f1, hf1, t1, o1⟩ := h1
 have k0 := hfy 0 f0 hf0
 have k1 := hfy 1 f1 hf1
 rw [t0, o0, cu, List.drop_zero, List.take_take] at k0
 rw [t1, o1, cu] at k1
 have hy : ys.length = 2 := by rw [hly, hz]
 rw [List.getElem?_eq_getElem (by omega)] at k0 k1
 obtain ⟨z0, a0, b0, _⟩ := DataW.trod_int hu k0
 obtain ⟨z1, a1, b1, _⟩ := DataW.trod_int hu k1
 have c0 : (ys.map (·.1))[0]? = some (.lit (.int k p.1)) := by rw [e5]; rfl
 have c1 : (ys.map (·.1))[1]? = some (.lit (.int k p.2)) := by rw [e5]; rfl
 rw [List.getElem?_map, List.getElem?_eq_getElem (by omega), b0] at c0
 rw [List.getElem?_map, List.getElem?_eq_getElem (by omega), b1] at c1
 simp only [Option.map_some, Option.some.injEq, DataW.lit.injEq, Lit.int.injEq, true_and] at c0 c1
 subst c0 c1
 have d0 : cs.toList[r * 2]? = some (.int k p.1) := by
  have h0 : ((cs.toList.drop (r * 2)).take (min 1 2))[0]? = some (.int k p.1) := by rw [a0]; rfl
  simpa using h0
 have d1 : cs.toList[r * 2 + 1]? = some (.int k p.2) := by
  have h0 : ((((cs.toList.drop (r * 2)).take 2).drop 1).take 1)[0]? = some (.int k p.2) := by rw [a1]; rfl
  simpa using h0
 exact ⟨by rw [World.var?_cell hg hv]; simpa using d0, by rw [World.var?_cell hg hv]; simpa using d1⟩
def firstL : List Int := (List.range 256).map X.firstN
def accL : List (Int × Int) := (List.range 16).map X.accN
theorem first_at {c : Nat} (h : c < 256) : firstL.length = 256 ∧ firstL.getD c 0 = X.firstN c := by
 have e : firstL.length = 256 := by simp [firstL]
 refine ⟨e, ?_⟩
 rw [List.getD, firstL, List.getElem?_map, List.getElem?_range h]; rfl
theorem acc_at {i : Nat} (h : i < 16) : accL[i]? = some (X.accN i) := by
 rw [accL, List.getElem?_map, List.getElem?_range h]; rfl
set_option maxRecDepth 100000 in
theorem lt_of_laid {W : World} (h : laidMetH Tryd.prog laidT W) : X.LT W := by
 rw [MakeChecks.laidMetH_plain _ _ _ (by kernel_rfl)] at h
 obtain ⟨ps, ⟨g0, t0, cs0, f0, p0, q0, hg0, ht0, hv0, hd0, ⟨g1, t1, cs1, f1, p1, q1, hg1, ht1, hv1, hd1, ⟨g2, t2, cs2, f2, p2, q2, hg2, ht2, hv2, hd2, ⟨g3, t3, cs3, f3, p3, q3, hg3, ht3, hv3, hd3, ⟨g4, t4, cs4, f4, p4, q4, hg4, ht4, hv4, hd4, ⟨g5, t5, cs5, f5, p5, q5, hg5, ht5, hv5, hd5, ⟨g6, t6, cs6, f6, p6, q6, hg6, ht6, hv6, hd6, _, _⟩, _⟩, _⟩, _⟩, _⟩, _⟩, _⟩, _, _⟩ := h
 obtain rfl := Option.some.inj ((show Tryd.prog.globalNamed "flipbook/glyph.wide" = some 4 by kernel_rfl).symm.trans hg0)
 obtain rfl := Option.some.inj ((show Tryd.prog.globalNamed "flipbook/glyph.signs" = some 3 by kernel_rfl).symm.trans hg1)
 obtain rfl := Option.some.inj ((show Tryd.prog.globalNamed "internal/strconv.uint64pow10" = some 0 by kernel_rfl).symm.trans hg4)
 obtain rfl := Option.some.inj ((show Tryd.prog.globalNamed "unicode/utf8.acceptRanges" = some 2 by kernel_rfl).symm.trans hg5)
 obtain rfl := Option.some.inj ((show Tryd.prog.globalNamed "unicode/utf8.first" = some 1 by kernel_rfl).symm.trans hg6)
 obtain rfl := Option.some.inj ((show (Tryd.prog.globals[4]?).map (·.type) = some 140 by kernel_rfl).symm.trans ht0)
 obtain rfl := Option.some.inj ((show (Tryd.prog.globals[3]?).map (·.type) = some 77 by kernel_rfl).symm.trans ht1)
 obtain rfl := Option.some.inj ((show (Tryd.prog.globals[0]?).map (·.type) = some 132 by kernel_rfl).symm.trans ht4)
 obtain rfl := Option.some.inj ((show (Tryd.prog.globals[2]?).map (·.type) = some 139 by kernel_rfl).symm.trans ht5)
 obtain rfl := Option.some.inj ((show (Tryd.prog.globals[1]?).map (·.type) = some 136 by kernel_rfl).symm.trans ht6)
 have z6 : Rows.laid_unicode_utf8_first = .agg (firstL.map fun n => .lit (.int .u8 n)) := by kernel_rfl
 rw [z6] at hd6
 have z5 : (Rows.laid_unicode_utf8_acceptRanges : DataW Unit) = .agg (accL.map fun p => .agg [.lit (.int .u8 p.1), .lit (.int .u8 p.2)]) := by kernel_rfl
 rw [z5] at hd5
 refine ⟨⟨lits_of_trod (k := .i32) (e := 21) (by kernel_rfl) (by kernel_rfl) hg0 hv0 hd0 (by kernel_rfl) rfl, lits_of_trod (k := .i32) (e := 21) (by kernel_rfl) (by kernel_rfl) hg1 hv1 hd1 (by kernel_rfl) rfl⟩, ⟨fun c hc => ?_, fun i hi => ?_⟩, fun i hi => ?_⟩
 ·have := lits_of_trod (k := .u8) (e := 5) (by kernel_rfl) (by kernel_rfl) hg6 hv6 hd6 (by kernel_rfl) (first_at hc).1 c (by rw [(first_at hc).1]; exact hc)
  rw [(first_at hc).2] at this; exact this
 ·exact pairs_of_trod (k := .u8) (e := 138) (u := 5) Tryd.underlying138 ⟨_, rfl, rfl, rfl⟩ ⟨_, rfl, rfl, rfl⟩ rfl Tryd.underlying5 (by kernel_rfl) (by kernel_rfl) hg5 hv5 hd5 Tryd.underlying139 (by simp [accL]) i _ (acc_at hi)
 ·have h1 := lits_of_trod (k := .u64) (e := 109) (l := [1, 10, 100, 1000, 10000, 100000, 1000000, 10000000, 100000000, 1000000000, 10000000000, 100000000000, 1000000000000, 10000000000000, 100000000000000, 1000000000000000, 10000000000000000, 100000000000000000, 1000000000000000000, 10000000000000000000]) (by kernel_rfl) (by kernel_rfl) hg4 hv4 hd4 (by kernel_rfl) rfl i (Nat.lt_of_lt_of_le hi (by decide))
  rw [h1]
  obtain rfl | rfl | rfl : i = 0 ∨ i = 1 ∨ i = 2 := by omega
  all_goals rfl
end Go.Proofs.YteoejhjfbfacdaaDoor
namespace Go.Proofs.YteoejhjfbfacdaaDoor
open Go.ChangeShapes Go.WideShapes Go.ChangeAt Go.RowKit
section
variable {H : Type} {enc : TypeId × Value → H} {P : Program} {w : World} {base : Nat} {spare : Nat → Bool} {held : Bool}
theorem take_one {α : Type} {l : List α} {i : Nat} {x : α} (h : (l.drop i).take 1 = [x]) : l[i]? = some x := by
 have h0 : ((l.drop i).take 1)[0]? = some x := by rw [h]; rfl
 simpa using h0
theorem open_pair {r : Reach} {b0 : Nat} {t e : TypeId} {k : IntKind} {v : Value} {d : DataW H} {ps : List MemPlace} (ht : P.underlying t = some (.array 2 e)) (he : P.underlying e = some (.int k)) (ce : P.cellsOf e = 1) (ct : P.cellsOf t = 2)
  (hval : Value.okWide P w r b0 t v) (hd : DataW.Trod enc P w base spare held t v d ps) :
  ∃ a b, v = .agg #[.int k a, .int k b] ∧ d = .agg [.lit (.int k a), .lit (.int k b)] ∧ ps = [] ∧ (Lit.int k a).wf = true ∧ (Lit.int k b).wf = true := by
 obtain ⟨cs, rfl, hs, _⟩ : ∃ cs, v = .agg cs ∧ cs.size = 2 ∧ True := by
  unfold Value.okWide at hval
  rw [ht] at hval
  obtain ⟨cs, h1, h2, _⟩ := hval
  exact ⟨cs, h1, by rw [h2, ct], trivial⟩
 obtain ⟨fuel, hf⟩ := hd
 obtain ⟨xs, m, _, ex, _, hlx, hel⟩ := DataW.trod_array ht hf
 have k0 := hel 0 (by omega)
 have k1 := hel 1 (by omega)
 rw [ce, List.getElem?_eq_getElem (by omega)] at k0 k1
 obtain ⟨a, a0, b0, w0⟩ := DataW.trod_int he k0
 obtain ⟨b, a1, b1, w1⟩ := DataW.trod_int he k1
 have c0 := take_one a0
 have c1 := take_one a1
 simp only [Value.cells, Nat.zero_mul, Nat.one_mul] at c0 c1
 have hcs : cs = #[.int k a, .int k b] := by
  apply Array.ext'
  match hl : cs.toList, (show cs.toList.length = 2 by simpa using hs) with
  | [x, y], _ =>
   rw [hl] at c0 c1
   simp at c0 c1
   rw [c0, c1]
 have hxs : xs = [(.lit (.int k a), []), (.lit (.int k b), [])] := by
  match xs, hlx with
  | [x, y], _ =>
   simp at b0 b1
   rw [b0, b1]
 subst hcs hxs
 have e1 := (Prod.mk.inj ex)
 exact ⟨a, b, rfl, by simpa using e1.1, by simpa using e1.2, w0, w1⟩
theorem shut_pair {t e : TypeId} {k : IntKind} {a b : Int} (ht : P.underlying t = some (.array 2 e)) (he : P.underlying e = some (.int k)) (ce : P.cellsOf e = 1) (ct : P.cellsOf t = 2) (wa : (Lit.int k a).wf = true) (wb : (Lit.int k b).wf = true) :
  DataW.Trod enc P w base spare held t (.agg #[.int k a, .int k b]) (.agg [.lit (.int k a), .lit (.int k b)]) [] :=
 ⟨2, by simp [DataW.trod, Value.cells, ht, he, ce, ct, wa, wb, List.range_succ]⟩
end
theorem below_of_ch {w w' : World} (h : X.Ch (fun _ => False) w w') : Below w.heap.size w w' := ⟨h.os, h.tape, h.output, h.size, fun k hk => h.block k hk id⟩
theorem top_of_laid {W : World} (h : laidMetH Tryd.prog laidT W) : X.gTop ≤ W.heap.size := by
 rw [MakeChecks.laidMetH_plain _ _ _ (by kernel_rfl)] at h
 obtain ⟨ps, ⟨g0, t0, cs0, f0, p0, q0, hg0, ht0, hv0, hd0, ⟨g1, t1, cs1, f1, p1, q1, hg1, ht1, hv1, hd1, ⟨g2, t2, cs2, f2, p2, q2, hg2, ht2, hv2, hd2, ⟨g3, t3, cs3, f3, p3, q3, hg3, ht3, hv3, hd3, _, _⟩, _⟩, _⟩, _⟩, _, _⟩ := h
 obtain rfl := Option.some.inj ((show Tryd.prog.globalNamed "math/bits.deBruijn64tab" = some 6 by kernel_rfl).symm.trans hg3)
 obtain rfl := Option.some.inj ((show (Tryd.prog.globals[6]?).map (·.type) = some 151 by kernel_rfl).symm.trans ht3)
 obtain ⟨xs, m, _, _, hlen, _⟩ := DataW.trod_array Tryd.underlying151 hd3
 have hl : cs3.toList.length = 64 := hlen.trans (by kernel_rfl)
 have hc := World.var?_cell hg3 hv3 0
 have : ∃ v, cs3[0]? = some v := ⟨_, Array.getElem?_eq_getElem (by simpa using (show 0 < cs3.toList.length by omega))⟩
 obtain ⟨v, hv⟩ := this
 rw [hv] at hc
 have := X.cell_lt hc
 show 7 ≤ _
 omega
end Go.Proofs.YteoejhjfbfacdaaDoor
namespace Go.Proofs.YteoejhjfbfacdaaDoor
open Go.ChangeShapes Go.WideShapes Go.ChangeAt Go.RowKit
section
variable {H : Type} {enc : TypeId × Value → H} {w : World} {base : Nat}
theorem three_of {cs : List Value} {a b c : Value} (hl : cs.length = 3) (h0 : cs[0]? = some a) (h1 : cs[1]? = some b) (h2 : cs[2]? = some c) : cs = [a, b, c] := by
 match cs, hl with
 | [u0, u1, u2], _ =>
  simp only [List.getElem?_cons_zero, List.getElem?_cons_succ, Option.some.injEq] at h0 h1 h2
  rw [h0, h1, h2]
set_option maxRecDepth 100000 in
theorem step_cells {spare : Nat → Bool} {held : Bool} {n : Nat} {cs : List Value} {x : DataW H × List MemPlace} (h : DataW.trod enc Tryd.prog w base spare held n 65 cs = some x) (hl : cs.length = 3) : ∃ y : X.Stp, cs = y.vals := by
 obtain ⟨xs, m, _, _, _, hlx, hf⟩ := DataW.trod_struct Tryd.underlying65 h
 have c1 : Tryd.prog.cellsOf 9 = 1 := by kernel_rfl
 have c2 : Tryd.prog.cellsOf 3 = 1 := by kernel_rfl
 have k0 : DataW.trod enc Tryd.prog w base spare held m 9 ((cs.drop 0).take (Tryd.prog.cellsOf 9)) = xs[0]? := hf 0 _ rfl
 have k1 : DataW.trod enc Tryd.prog w base spare held m 3 ((cs.drop 1).take (Tryd.prog.cellsOf 3)) = xs[1]? := hf 1 _ rfl
 have k2 : DataW.trod enc Tryd.prog w base spare held m 3 ((cs.drop 2).take (Tryd.prog.cellsOf 3)) = xs[2]? := hf 2 _ rfl
 rw [c1] at k0
 rw [c2] at k1 k2
 have hlx3 : xs.length = 3 := hlx
 rw [List.getElem?_eq_getElem (by omega)] at k0 k1 k2
 obtain ⟨s, a0, _⟩ := DataW.trod_string Tryd.underlying9 k0
 obtain ⟨a, a1, _⟩ := DataW.trod_int Tryd.underlying3 k1
 obtain ⟨b, a2, _⟩ := DataW.trod_int Tryd.underlying3 k2
 have g0 := take_one a0
 have g1 := take_one a1
 have g2 := take_one a2
 exact ⟨⟨s, a, b⟩, three_of hl g0 g1 g2⟩
set_option maxRecDepth 100000 in
theorem open_steps {r : Reach} {b0 : Nat} {t : TypeId} {v : Value} {d : DataW H} {ps : List MemPlace} (ht : Tryd.prog.underlying t = some (.slice 65)) (hval : Value.okWide Tryd.prog w r b0 t v) (hd : DataW.Trod enc Tryd.prog w base (fun _ => true) true t v d ps) :
  ∃ (a : Option Addr) (n sc : Nat) (st : List X.Stp), v = .slice a n sc ∧ (n = 0 ∨ ∃ b off, a = some ⟨b, off, none⟩) ∧ st.length = n ∧ X.Rd w a (X.flatS st) := by
 obtain ⟨a0, n0, c0, rfl⟩ := okWide_slice ht hval
 obtain ⟨fuel, hf⟩ := hd
 have ce : Tryd.prog.cellsOf 65 = 3 := by kernel_rfl
 rcases Deep.open_slice ht hf with ⟨h0, _⟩ | ⟨a, len, cap, m, n, D, Pl, hv, _, hl, _, hm, _, hx⟩
 ·have h1 : Value.slice a0 n0 c0 = .slice none 0 0 := List.head_eq_of_cons_eq h0
  exact ⟨none, 0, 0, [], h1, .inl rfl, rfl, X.Rd.nil _ _⟩
 ·have h1 : Value.slice a0 n0 c0 = .slice (some a) len cap := List.head_eq_of_cons_eq hv
  have hm' : m = cap := by simpa using hm
  rw [ce] at hx
  have each : ∀ i, i < len → ∃ y : X.Stp, w.cells? base (a.add (i * 3)) 3 = some y.vals := fun i hi => by
   obtain ⟨cs, e1, e2⟩ := hx i (by omega)
   obtain ⟨_, hlen, _⟩ := World.cells?_some e1
   obtain ⟨y, rfl⟩ := step_cells e2 hlen
   exact ⟨y, e1⟩
  have : Inhabited X.Stp := ⟨X.stp0⟩
  obtain ⟨f, hfy⟩ := Deep.choose_lt each
  refine ⟨some a, len, cap, (List.range len).map f, h1, ?_, by simp, fun e => (by cases e), fun ad e j u hj => ?_⟩
  ·rcases Nat.eq_zero_or_pos len with h0 | h0
   ·exact .inl h0
   ·right
    obtain ⟨_, _, hc⟩ := World.cells?_some (hfy 0 h0)
    have h2 := hc 0 (by omega)
    rw [Deep.add_add] at h2
    have h3 : w.cell? a = some (.string (f 0).text) := h2
    obtain ⟨b, off, sp⟩ := a
    cases sp with
    | none => exact ⟨b, off, rfl⟩
    | some q =>
     unfold World.cell? at h3
     split at h3
     ·simp at h3
     ·cases h3
  ·obtain rfl := Option.some.inj e
   have hlen : (X.flatS ((List.range len).map f)).length = len * 3 := by rw [X.flatS_len]; simp
   have hlt : j < len * 3 := by
    rw [← hlen]
    exact (List.getElem?_eq_some_iff.1 hj).1
   have hi : j / 3 < len := by omega
   have hr : j % 3 < 3 := by omega
   have hjj : j = j / 3 * 3 + j % 3 := by omega
   have h2 := X.flatS_get ((List.range len).map f) (j / 3) (j % 3) (by simpa using hi) hr
   rw [← hjj, hj] at h2
   have hg : X.gs ((List.range len).map f) (j / 3) = f (j / 3) := by simp [X.gs, List.getD, hi]
   rw [hg] at h2
   obtain ⟨_, _, hc⟩ := World.cells?_some (hfy (j / 3) hi)
   have h3 := hc (j % 3) hr
   rw [Deep.add_add, ← hjj] at h3
   rw [h3, ← h2]
end
end Go.Proofs.YteoejhjfbfacdaaDoor
