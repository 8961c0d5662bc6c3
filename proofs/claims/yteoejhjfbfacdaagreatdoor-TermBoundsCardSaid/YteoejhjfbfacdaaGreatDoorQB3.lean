/- What the proof of TermBounds needs, part 3: the walks of the program's functions and the plain laws about them. -/
import Derived.Test.YteoejhjfbfacdaaGreatDoorQB2
set_option linter.unusedSimpArgs false
set_option linter.unusedVariables false
namespace Go.Proofs.YteoejhjfbfacdaaGreatDoor.X
open Go Go.RowKit Go.Proofs.YteoejhjfbfacdaaGreatDoor
def signT (T : TS) (r : Int) : Int × Int :=
  let q := if ((T.shift && T.draw1) || (!T.shift && T.draw0)) = true then drawnI r else r
  if (!rightB q || (wideB q && (T.grid.w == 1))) = true then (65533, 1) else (q, colsI [q])
theorem runes_one {w : World} {b : Nat} {x : Int} {T : TypeId} (h : Blk w b [rX x] T) : Runes w (some ⟨b, 0, none⟩) 1 [x] :=
  ⟨rfl, fun j hj => ⟨_, rfl, by obtain rfl : j = 0 := by omega
                                exact h.cell 0⟩⟩
set_option maxHeartbeats 4000000 in
theorem sign_any {w : World} {t g o : Nat} {ba : Option Addr} {bn bc : Nat} {pa : Option Addr} {pn pc : Nat} {T : TS} {F F1 F2 FB FP : Nat → Prop} (hI : TermIn w t g o ba bn bc pa pn pc T F F1 F2 FB FP) (hT : Tables w) (r : Int) : Calls Tryz.prog 79 [pX t, rX r].toArray w fun e w' => e = .returned (.tuple #[rX (signT T r).1, iX (signT T r).2]) ∧ Ch (fun _ => False) w w' := by
 have hgd := hI.g1.head
 obtain ⟨gv, hgd⟩ := hgd
 obtain ⟨⟨hw1, hw2⟩, ⟨hh1, hh2⟩, hll, hall⟩ := hI.g1.ok
 have htg : Df t g := fun e => hI.t1 (e ▸ hI.g1.inF)
 refine yA Tryz.func79 rfl <| ysr <| yp 2 [] .z <| ye <| ys <| ysr <| yp 5 [] (.l (hI.blk.c 94) .z) <| yw [11] (rY T.shift) (fun hC10 => ?_) fun hC10 => ?_
 ·have hpp0 := hC10
  refine yp 12 [] (.i 1 (2) (.l (hI.blk.c 93) .z)) <| yw [18] (rY T.draw1) (fun hC11 => ?_) fun hC11 => ?_
  ·have hpp1 := hC11
   refine yp 25 [] .z <| ye <| yct <| x_region <| yp 1 [] .z <| yo (yQ (drawn_any r _ hT.2) fun w12 hq => ?_)
   have hc13 := ch_eq hq
   clear hq
   have hu14 := Up.step (Up.refl w.heap.size w) hc13 iZ
   have ht15 := hI.blk.ch hc13 id
   have hg16 := hgd.ch hc13 id
   have hT17 := tables_ch hc13 hT id id
   refine yp 3 [] .z <| ye <| ysr <| yp 1 [] .z <| yo (yQ (wide_any (drawnI r) _ hT17.1) fun w18 hq => ?_)
   have hc19 := ch_eq hq
   clear hq
   have hu20 := Up.step hu14 hc19 iZ
   have ht21 := ht15.ch hc19 id
   have hg22 := hg16.ch hc19 id
   have hT23 := tables_ch hc19 hT17 id id
   refine yp 3 [] .z <| ye <| ys <| ysr <| yp 1 [] .z <| yo (yQ (right_any (drawnI r) _) fun w24 hq => ?_)
   have hc25 := ch_eq hq
   clear hq
   have hu26 := Up.step hu20 hc25 iZ
   have ht27 := ht21.ch hc25 id
   have hg28 := hg22.ch hc25 id
   have hT29 := tables_ch hc25 hT23 id id
   refine yp 4 [] .z <| yw [39] (rN (rY (rightB (drawnI r)))) (fun hC30 => ?_) fun hC30 => ?_
   ·have hpp2 := hC30
    refine yp 16 [] .z <| ye <| yct <| ysr <| yp 2 [] .z <| ye <| x_ret (rS (yR2 [rX 65533, iX 1] .z ?_))
    refine ⟨?_, Up.ch hu26⟩
    unfold signT
    simp [hpp0, hpp1, hpp2]
   have hpp2 := hC30
   refine yp 6 [] .z <| yw [41] (rY (wideB (drawnI r))) (fun hC31 => ?_) fun hC31 => ?_
   ·have hpp3 := hC31
    refine yp 16 [] (.l (ht27.c 0) (.l (hg28.c 0) .z)) <| ye <| yc (rE T.grid.w 1) (fun hC32 => ?_) fun hC32 => ?_
    ·have hpp4 := hC32
     refine ysr <| yp 2 [] .z <| ye <| x_ret (rS (yR2 [rX 65533, iX 1] .z ?_))
     refine ⟨?_, Up.ch hu26⟩
     unfold signT
     simp [hpp0, hpp1, hpp2, hpp3, hpp4]
    have hpp4 := hC32
    refine yk <| ysr <| yp 2 [] .z <| yo (yB [rX (drawnI r)] 21 1 fun w33 b34 hb35 hz36 hB37 hc38 => ?_)
    have hlo39 : w.heap.size ≤ b34 := by rw [hb35]; exact Ch.size hu26
    have hu40 := Up.step hu26 hc38 iZ
    have hT43 := tables_ch hc38 hT29 id id
    refine yo (yQ (columns_any _ 1 1 [(drawnI r)] _ hT43 (runes_one hB37) (by omega)) fun w44 hq => ?_)
    have hc45 := ch_eq hq
    clear hq
    have hu46 := Up.step hu40 hc45 iZ
    refine yp 6 [] .z <| ye <| x_ret (yR2 [rX (drawnI r), iX (colsI [(drawnI r)])] .z ?_)
    refine ⟨?_, Up.ch hu46⟩
    unfold signT
    simp [hpp0, hpp1, hpp2, hpp3, hpp4]
   have hpp3 := hC31
   refine yp 16 [] .z <| ye <| ycf <| yk <| ysr <| yp 2 [] .z <| yo (yB [rX (drawnI r)] 21 1 fun w51 b52 hb53 hz54 hB55 hc56 => ?_)
   have hlo57 : w.heap.size ≤ b52 := by rw [hb53]; exact Ch.size hu26
   have hu58 := Up.step hu26 hc56 iZ
   have hT61 := tables_ch hc56 hT29 id id
   refine yo (yQ (columns_any _ 1 1 [(drawnI r)] _ hT61 (runes_one hB55) (by omega)) fun w62 hq => ?_)
   have hc63 := ch_eq hq
   clear hq
   have hu64 := Up.step hu58 hc63 iZ
   refine yp 6 [] .z <| ye <| x_ret (yR2 [rX (drawnI r), iX (colsI [(drawnI r)])] .z ?_)
   refine ⟨?_, Up.ch hu64⟩
   unfold signT
   simp [hpp0, hpp1, hpp2, hpp3]
  have hpp1 := hC11
  refine yp 18 [] (.l (hI.blk.c 94) .z) <| yw [24] (rN (rY T.shift)) (fun hC69 => ?_) fun hC69 => ?_
  ·exact absurd (hpp0.symm.trans hC69) (by decide)
  have hpp2 := hC69
  refine yp 25 [] .z <| ye <| ycf <| yk <| ysr <| yp 1 [] .z <| yo (yQ (wide_any r _ hT.1) fun w70 hq => ?_)
  have hc71 := ch_eq hq
  clear hq
  have hu72 := Up.step (Up.refl w.heap.size w) hc71 iZ
  have ht73 := hI.blk.ch hc71 id
  have hg74 := hgd.ch hc71 id
  have hT75 := tables_ch hc71 hT id id
  refine yp 3 [] .z <| ye <| ys <| ysr <| yp 1 [] .z <| yo (yQ (right_any r _) fun w76 hq => ?_)
  have hc77 := ch_eq hq
  clear hq
  have hu78 := Up.step hu72 hc77 iZ
  have ht79 := ht73.ch hc77 id
  have hg80 := hg74.ch hc77 id
  have hT81 := tables_ch hc77 hT75 id id
  refine yp 4 [] .z <| yw [39] (rN (rY (rightB r))) (fun hC82 => ?_) fun hC82 => ?_
  ·have hpp3 := hC82
   refine yp 16 [] .z <| ye <| yct <| ysr <| yp 2 [] .z <| ye <| x_ret (rS (yR2 [rX 65533, iX 1] .z ?_))
   refine ⟨?_, Up.ch hu78⟩
   unfold signT
   simp [hpp0, hpp1, hpp2, hpp3]
  have hpp3 := hC82
  refine yp 6 [] .z <| yw [41] (rY (wideB r)) (fun hC83 => ?_) fun hC83 => ?_
  ·have hpp4 := hC83
   refine yp 16 [] (.l (ht79.c 0) (.l (hg80.c 0) .z)) <| ye <| yc (rE T.grid.w 1) (fun hC84 => ?_) fun hC84 => ?_
   ·have hpp5 := hC84
    refine ysr <| yp 2 [] .z <| ye <| x_ret (rS (yR2 [rX 65533, iX 1] .z ?_))
    refine ⟨?_, Up.ch hu78⟩
    unfold signT
    simp [hpp0, hpp1, hpp2, hpp3, hpp4, hpp5]
   have hpp5 := hC84
   refine yk <| ysr <| yp 2 [] .z <| yo (yB [rX r] 21 1 fun w85 b86 hb87 hz88 hB89 hc90 => ?_)
   have hlo91 : w.heap.size ≤ b86 := by rw [hb87]; exact Ch.size hu78
   have hu92 := Up.step hu78 hc90 iZ
   have hT95 := tables_ch hc90 hT81 id id
   refine yo (yQ (columns_any _ 1 1 [r] _ hT95 (runes_one hB89) (by omega)) fun w96 hq => ?_)
   have hc97 := ch_eq hq
   clear hq
   have hu98 := Up.step hu92 hc97 iZ
   refine yp 6 [] .z <| ye <| x_ret (yR2 [rX r, iX (colsI [r])] .z ?_)
   refine ⟨?_, Up.ch hu98⟩
   unfold signT
   simp [hpp0, hpp1, hpp2, hpp3, hpp4, hpp5]
  have hpp4 := hC83
  refine yp 16 [] .z <| ye <| ycf <| yk <| ysr <| yp 2 [] .z <| yo (yB [rX r] 21 1 fun w103 b104 hb105 hz106 hB107 hc108 => ?_)
  have hlo109 : w.heap.size ≤ b104 := by rw [hb105]; exact Ch.size hu78
  have hu110 := Up.step hu78 hc108 iZ
  have hT113 := tables_ch hc108 hT81 id id
  refine yo (yQ (columns_any _ 1 1 [r] _ hT113 (runes_one hB107) (by omega)) fun w114 hq => ?_)
  have hc115 := ch_eq hq
  clear hq
  have hu116 := Up.step hu110 hc115 iZ
  refine yp 6 [] .z <| ye <| x_ret (yR2 [rX r, iX (colsI [r])] .z ?_)
  refine ⟨?_, Up.ch hu116⟩
  unfold signT
  simp [hpp0, hpp1, hpp2, hpp3, hpp4]
 have hpp0 := hC10
 refine yp 18 [] (.l (hI.blk.c 94) .z) <| yw [24] (rN (rY T.shift)) (fun hC121 => ?_) fun hC121 => ?_
 ·have hpp1 := hC121
  refine yp 25 [] (.i 0 (2) (.l (hI.blk.c 92) .z)) <| ye <| yc (rY T.draw0) (fun hC122 => ?_) fun hC122 => ?_
  ·have hpp2 := hC122
   refine x_region <| yp 1 [] .z <| yo (yQ (drawn_any r _ hT.2) fun w123 hq => ?_)
   have hc124 := ch_eq hq
   clear hq
   have hu125 := Up.step (Up.refl w.heap.size w) hc124 iZ
   have ht126 := hI.blk.ch hc124 id
   have hg127 := hgd.ch hc124 id
   have hT128 := tables_ch hc124 hT id id
   refine yp 3 [] .z <| ye <| ysr <| yp 1 [] .z <| yo (yQ (wide_any (drawnI r) _ hT128.1) fun w129 hq => ?_)
   have hc130 := ch_eq hq
   clear hq
   have hu131 := Up.step hu125 hc130 iZ
   have ht132 := ht126.ch hc130 id
   have hg133 := hg127.ch hc130 id
   have hT134 := tables_ch hc130 hT128 id id
   refine yp 3 [] .z <| ye <| ys <| ysr <| yp 1 [] .z <| yo (yQ (right_any (drawnI r) _) fun w135 hq => ?_)
   have hc136 := ch_eq hq
   clear hq
   have hu137 := Up.step hu131 hc136 iZ
   have ht138 := ht132.ch hc136 id
   have hg139 := hg133.ch hc136 id
   have hT140 := tables_ch hc136 hT134 id id
   refine yp 4 [] .z <| yw [39] (rN (rY (rightB (drawnI r)))) (fun hC141 => ?_) fun hC141 => ?_
   ·have hpp3 := hC141
    refine yp 16 [] .z <| ye <| yct <| ysr <| yp 2 [] .z <| ye <| x_ret (rS (yR2 [rX 65533, iX 1] .z ?_))
    refine ⟨?_, Up.ch hu137⟩
    unfold signT
    simp [hpp0, hpp1, hpp2, hpp3]
   have hpp3 := hC141
   refine yp 6 [] .z <| yw [41] (rY (wideB (drawnI r))) (fun hC142 => ?_) fun hC142 => ?_
   ·have hpp4 := hC142
    refine yp 16 [] (.l (ht138.c 0) (.l (hg139.c 0) .z)) <| ye <| yc (rE T.grid.w 1) (fun hC143 => ?_) fun hC143 => ?_
    ·have hpp5 := hC143
     refine ysr <| yp 2 [] .z <| ye <| x_ret (rS (yR2 [rX 65533, iX 1] .z ?_))
     refine ⟨?_, Up.ch hu137⟩
     unfold signT
     simp [hpp0, hpp1, hpp2, hpp3, hpp4, hpp5]
    have hpp5 := hC143
    refine yk <| ysr <| yp 2 [] .z <| yo (yB [rX (drawnI r)] 21 1 fun w144 b145 hb146 hz147 hB148 hc149 => ?_)
    have hlo150 : w.heap.size ≤ b145 := by rw [hb146]; exact Ch.size hu137
    have hu151 := Up.step hu137 hc149 iZ
    have hT154 := tables_ch hc149 hT140 id id
    refine yo (yQ (columns_any _ 1 1 [(drawnI r)] _ hT154 (runes_one hB148) (by omega)) fun w155 hq => ?_)
    have hc156 := ch_eq hq
    clear hq
    have hu157 := Up.step hu151 hc156 iZ
    refine yp 6 [] .z <| ye <| x_ret (yR2 [rX (drawnI r), iX (colsI [(drawnI r)])] .z ?_)
    refine ⟨?_, Up.ch hu157⟩
    unfold signT
    simp [hpp0, hpp1, hpp2, hpp3, hpp4, hpp5]
   have hpp4 := hC142
   refine yp 16 [] .z <| ye <| ycf <| yk <| ysr <| yp 2 [] .z <| yo (yB [rX (drawnI r)] 21 1 fun w162 b163 hb164 hz165 hB166 hc167 => ?_)
   have hlo168 : w.heap.size ≤ b163 := by rw [hb164]; exact Ch.size hu137
   have hu169 := Up.step hu137 hc167 iZ
   have hT172 := tables_ch hc167 hT140 id id
   refine yo (yQ (columns_any _ 1 1 [(drawnI r)] _ hT172 (runes_one hB166) (by omega)) fun w173 hq => ?_)
   have hc174 := ch_eq hq
   clear hq
   have hu175 := Up.step hu169 hc174 iZ
   refine yp 6 [] .z <| ye <| x_ret (yR2 [rX (drawnI r), iX (colsI [(drawnI r)])] .z ?_)
   refine ⟨?_, Up.ch hu175⟩
   unfold signT
   simp [hpp0, hpp1, hpp2, hpp3, hpp4]
  have hpp2 := hC122
  refine yk <| ysr <| yp 1 [] .z <| yo (yQ (wide_any r _ hT.1) fun w180 hq => ?_)
  have hc181 := ch_eq hq
  clear hq
  have hu182 := Up.step (Up.refl w.heap.size w) hc181 iZ
  have ht183 := hI.blk.ch hc181 id
  have hg184 := hgd.ch hc181 id
  have hT185 := tables_ch hc181 hT id id
  refine yp 3 [] .z <| ye <| ys <| ysr <| yp 1 [] .z <| yo (yQ (right_any r _) fun w186 hq => ?_)
  have hc187 := ch_eq hq
  clear hq
  have hu188 := Up.step hu182 hc187 iZ
  have ht189 := ht183.ch hc187 id
  have hg190 := hg184.ch hc187 id
  have hT191 := tables_ch hc187 hT185 id id
  refine yp 4 [] .z <| yw [39] (rN (rY (rightB r))) (fun hC192 => ?_) fun hC192 => ?_
  ·have hpp3 := hC192
   refine yp 16 [] .z <| ye <| yct <| ysr <| yp 2 [] .z <| ye <| x_ret (rS (yR2 [rX 65533, iX 1] .z ?_))
   refine ⟨?_, Up.ch hu188⟩
   unfold signT
   simp [hpp0, hpp1, hpp2, hpp3]
  have hpp3 := hC192
  refine yp 6 [] .z <| yw [41] (rY (wideB r)) (fun hC193 => ?_) fun hC193 => ?_
  ·have hpp4 := hC193
   refine yp 16 [] (.l (ht189.c 0) (.l (hg190.c 0) .z)) <| ye <| yc (rE T.grid.w 1) (fun hC194 => ?_) fun hC194 => ?_
   ·have hpp5 := hC194
    refine ysr <| yp 2 [] .z <| ye <| x_ret (rS (yR2 [rX 65533, iX 1] .z ?_))
    refine ⟨?_, Up.ch hu188⟩
    unfold signT
    simp [hpp0, hpp1, hpp2, hpp3, hpp4, hpp5]
   have hpp5 := hC194
   refine yk <| ysr <| yp 2 [] .z <| yo (yB [rX r] 21 1 fun w195 b196 hb197 hz198 hB199 hc200 => ?_)
   have hlo201 : w.heap.size ≤ b196 := by rw [hb197]; exact Ch.size hu188
   have hu202 := Up.step hu188 hc200 iZ
   have hT205 := tables_ch hc200 hT191 id id
   refine yo (yQ (columns_any _ 1 1 [r] _ hT205 (runes_one hB199) (by omega)) fun w206 hq => ?_)
   have hc207 := ch_eq hq
   clear hq
   have hu208 := Up.step hu202 hc207 iZ
   refine yp 6 [] .z <| ye <| x_ret (yR2 [rX r, iX (colsI [r])] .z ?_)
   refine ⟨?_, Up.ch hu208⟩
   unfold signT
   simp [hpp0, hpp1, hpp2, hpp3, hpp4, hpp5]
  have hpp4 := hC193
  refine yp 16 [] .z <| ye <| ycf <| yk <| ysr <| yp 2 [] .z <| yo (yB [rX r] 21 1 fun w213 b214 hb215 hz216 hB217 hc218 => ?_)
  have hlo219 : w.heap.size ≤ b214 := by rw [hb215]; exact Ch.size hu188
  have hu220 := Up.step hu188 hc218 iZ
  have hT223 := tables_ch hc218 hT191 id id
  refine yo (yQ (columns_any _ 1 1 [r] _ hT223 (runes_one hB217) (by omega)) fun w224 hq => ?_)
  have hc225 := ch_eq hq
  clear hq
  have hu226 := Up.step hu220 hc225 iZ
  refine yp 6 [] .z <| ye <| x_ret (yR2 [rX r, iX (colsI [r])] .z ?_)
  refine ⟨?_, Up.ch hu226⟩
  unfold signT
  simp [hpp0, hpp1, hpp2, hpp3, hpp4]
 exact absurd (hpp0.symm.trans hC121) (by decide)
end Go.Proofs.YteoejhjfbfacdaaGreatDoor.X
namespace Go.Proofs.YteoejhjfbfacdaaGreatDoor.X
open Go Go.RowKit Go.Proofs.YteoejhjfbfacdaaGreatDoor
theorem x_seq_cut {P : Program} {N : Nat} {Q : Exit → Act → World → Prop} {f : Fr} {w : World} {x y : Code} (f' : Fr) (I : World → Prop)
  (h1 : ∀ K : Act → World → Prop, (∀ u, I u → ∀ a, Has N f' a → K a u) → WC P N (Exit.then K Q) x f w) (h2 : ∀ u, I u → WC P N Q y f' u) : WC P N Q (.seq x y) f w :=
 x_seq fun K hK => h1 K fun u hI a ha => hK f' u (h2 u hI) a ha
def SelGoal (P : Program) (N : Nat) (ops : Array Oper) (Q : Exit → Act → World → Prop) (kill : List Nat) (F : World → Prop) (done : List Nat) (f : Fr) (w : World) (k : Nat) : Prop :=
 ∀ a, Has N f a → wpOp P ops Q k (fun a' w' => if kill.contains k then ∃ G : World → Prop, G w' ∧ wpAnyF P ops Q kill G (ops.size - (done ++ [k]).length) (marked ops.size (done ++ [k])) a' w'
  else ∃ G : World → Prop, (∀ u, G u → F u) ∧ G w' ∧ wpAnyF P ops Q kill G (ops.size - (done ++ [k]).length) (marked ops.size (done ++ [k])) a' w') a w
theorem x_dtwo {P : Program} {N : Nat} {ops : Array Oper} {Q : Exit → Act → World → Prop} {kill : List Nat} {F : World → Prop} {w : World} {done : List Nat} {f : Fr} (i j : Nat)
  (hr : (Region.ready .any ops (marked ops.size done) == [i, j]) = true) (hl : done.length < ops.size) (hi : SelGoal P N ops Q kill F done f w i) (hj : SelGoal P N ops Q kill F done f w j) : WD P N ops Q kill F done f w := by
 intro a ha
 have hr' : Region.ready .any ops (marked ops.size done) = [i, j] := by simpa using hr
 have key : ∀ k, SelGoal P N ops Q kill F done f w k → wpOp P ops Q k (fun a' w' => if kill.contains k then ∃ G : World → Prop, G w' ∧ wpAnyF P ops Q kill G (ops.size - (done ++ [k]).length) ((marked ops.size done).setIfInBounds k true) a' w'
   else ∃ G : World → Prop, (∀ u, G u → F u) ∧ G w' ∧ wpAnyF P ops Q kill G (ops.size - (done ++ [k]).length) ((marked ops.size done).setIfInBounds k true) a' w') a w := fun k h => by
  rw [← marked_snoc]; exact h a ha
 rw [show ops.size - done.length = (ops.size - (done ++ [i]).length) + 1 by simp; omega]
 refine ⟨fun h0 => (by rw [hr'] at h0; cases h0), fun k hk => ?_⟩
 rw [hr'] at hk
 simp only [List.mem_cons, List.not_mem_nil, or_false] at hk
 rcases hk with rfl | rfl
 ·exact key _ hi
 ·have := key _ hj
  simpa using this
theorem x_seff {P : Program} {N : Nat} {ops : Array Oper} {Q : Exit → Act → World → Prop} {kill : List Nat} {F : World → Prop} {w : World} {done : List Nat} {f : Fr} (k : Nat) (done' : List Nat)
  (hk : kill.contains k = false) (hd : done ++ [k] = done')
  (h : ∀ a, Has N f a → wpOp P ops Q k (fun a' w' => ∃ G : World → Prop, (∀ u, G u → F u) ∧ G w' ∧ wpAnyF P ops Q kill G (ops.size - done'.length) (marked ops.size done') a' w') a w) : SelGoal P N ops Q kill F done f w k := by
 intro a ha
 subst hd
 refine wpOp_mono (fun a' w' h' => ?_) (h a ha)
 rw [if_neg (by rw [hk]; exact Bool.false_ne_true)]
 exact h'
theorem x_skill {P : Program} {N : Nat} {ops : Array Oper} {Q : Exit → Act → World → Prop} {kill : List Nat} {F : World → Prop} {w : World} {done : List Nat} {f : Fr} (k : Nat) (done' : List Nat)
  (hk : kill.contains k = true) (hd : done ++ [k] = done')
  (h : ∀ a, Has N f a → wpOp P ops Q k (fun a' w' => ∃ G : World → Prop, G w' ∧ wpAnyF P ops Q kill G (ops.size - done'.length) (marked ops.size done') a' w') a w) : SelGoal P N ops Q kill F done f w k := by
 intro a ha
 subst hd
 refine wpOp_mono (fun a' w' h' => ?_) (h a ha)
 rw [if_pos hk]
 exact h'
theorem x_drawnB {P : Program} {N : Nat} {Q : Exit → Act → World → Prop} {f : Fr} {w : World} {id : Nat} {ops : Array Oper} (B : Nat → Prop) (kill : List Nat) (hm : P.follows .mixedOrders = true)
  (h : ∀ w', w'.heap = w.heap → Ch (fun _ => False) w w' → WD P N ops (Calm Q) kill (fun u => Ch B w' u) [] f w') : WC P N Q (.region id ops true) f w := fun a ha =>
 wp_mono (wp_region_any hm (wpAny_of_F _ (fun u => Ch B w.drew u) _ _ _ (h w.drew rfl (Ch.drew _ _) a ha))) fun _ _ _ hq => hq.to
theorem x_heldB {P : Program} {N : Nat} {ops : Array Oper} {Q : Exit → Act → World → Prop} {B C : Nat → Prop} {kill : List Nat} {w1 w2 : World} {done : List Nat} {f : Fr} (hc : Ch C w1 w2) (hC : ∀ i, i < w1.heap.size → C i → B i) (h : WD P N ops Q kill (fun u => Ch B w2 u) done f w2) :
  ∀ a, Has N f a → ∃ G : World → Prop, (∀ u, G u → Ch B w1 u) ∧ G w2 ∧ wpAnyF P ops Q kill G (ops.size - done.length) (marked ops.size done) a w2 :=
 x_held (fun _ hu => (hc.mono hC).trans hu fun _ _ h => h) (Ch.refl _ _) h
theorem x_killedB {P : Program} {N : Nat} {ops : Array Oper} {Q : Exit → Act → World → Prop} {B : Nat → Prop} {kill : List Nat} {w : World} {done : List Nat} {f : Fr} (h : WD P N ops Q kill (fun u => Ch B w u) done f w) :
  ∀ a, Has N f a → ∃ G : World → Prop, G w ∧ wpAnyF P ops Q kill G (ops.size - done.length) (marked ops.size done) a w := fun a ha => ⟨fun u => Ch B w u, Ch.refl _ _, h a ha⟩
def Cur.on (c : Cur) (W H : Int) : Prop := (0 ≤ c.x ∧ c.x < W) ∧ 0 ≤ c.y ∧ c.y < H
structure Lim (W H : Int) (T : TS) : Prop where
 wb : 1 ≤ W ∧ W ≤ 60
 hb : 1 ≤ H ∧ H ≤ 60
 g1 : T.grid.w = W ∧ T.grid.h = H
 g2 : T.other.w = W ∧ T.other.h = H
 cu : (0 ≤ T.cursor.x ∧ T.cursor.x < W) ∧ 0 ≤ T.cursor.y ∧ T.cursor.y < H
 sa : (0 ≤ T.saved.x ∧ T.saved.x < W) ∧ 0 ≤ T.saved.y ∧ T.saved.y < H
 aw : (0 ≤ T.away.x ∧ T.away.x < W) ∧ 0 ≤ T.away.y ∧ T.away.y < H
 tb : 0 ≤ T.top ∧ T.top < T.bot ∧ T.bot ≤ H
 bk : T.back.length ≤ 20
 rp : T.reply.size ≤ 400
theorem Lim.all {W H : Int} {T : TS} (h : Lim W H T) : (1 ≤ W ∧ W ≤ 60) ∧ (1 ≤ H ∧ H ≤ 60) ∧ (T.grid.w = W ∧ T.grid.h = H) ∧ (T.other.w = W ∧ T.other.h = H) ∧ ((0 ≤ T.cursor.x ∧ T.cursor.x < W) ∧ 0 ≤ T.cursor.y ∧ T.cursor.y < H) ∧ ((0 ≤ T.saved.x ∧ T.saved.x < W) ∧ 0 ≤ T.saved.y ∧ T.saved.y < H) ∧
  ((0 ≤ T.away.x ∧ T.away.x < W) ∧ 0 ≤ T.away.y ∧ T.away.y < H) ∧ (0 ≤ T.top ∧ T.top < T.bot ∧ T.bot ≤ H) ∧ T.back.length ≤ 20 ∧ T.reply.size ≤ 400 := ⟨h.wb, h.hb, h.g1, h.g2, h.cu, h.sa, h.aw, h.tb, h.bk, h.rp⟩
theorem putG_w (G : Gr) (x y : Int) (c : Cel) : (putG G x y c).w = G.w ∧ (putG G x y c).h = G.h := by unfold putG setG; split <;> exact ⟨rfl, rfl⟩
theorem clearG_w (G : Gr) (y a b : Int) (s : Sty) : (clearG G y a b s).w = G.w ∧ (clearG G y a b s).h = G.h := by unfold clearG setG; split <;> exact ⟨rfl, rfl⟩
theorem openG_w (G : Gr) (x y n : Int) (s : Sty) : (openG G x y n s).w = G.w ∧ (openG G x y n s).h = G.h := by
 unfold openG
 split
 ·exact clearG_w (setG G y _) _ _ _ _
 ·exact ⟨rfl, rfl⟩
theorem shutG_w (G : Gr) (x y n : Int) (s : Sty) : (shutG G x y n s).w = G.w ∧ (shutG G x y n s).h = G.h := by
 unfold shutG
 split
 ·exact clearG_w (setG G y _) _ _ _ _
 ·exact ⟨rfl, rfl⟩
theorem keepB_len (l m : List (List Cel)) : (keepB l m).length ≤ 20 := by unfold keepB; rw [List.length_drop]; omega
section
variable {W H : Int} {T : TS}
theorem Lim.grid (h : Lim W H T) {G : Gr} (hG : G.w = T.grid.w ∧ G.h = T.grid.h) : Lim W H { T with grid := G } :=
 {h with g1 := ⟨hG.1.trans h.g1.1, hG.2.trans h.g1.2⟩ }
theorem Lim.cursor (h : Lim W H T) {c : Cur} (hc : (0 ≤ c.x ∧ c.x < W) ∧ 0 ≤ c.y ∧ c.y < H) : Lim W H { T with cursor := c } := { h with cu := hc }
theorem lim_move (h : Lim W H T) (x y : Int) : Lim W H (moveT T x y) := by
 have h1 := h.g1
 have h2 := h.wb
 have h3 := h.hb
 exact h.cursor ⟨⟨by dsimp only; omega, by dsimp only; omega⟩, by dsimp only; omega, by dsimp only; omega⟩
theorem lim_home (h : Lim W H T) (x y : Int) : Lim W H (homeT T x y) := by
 unfold homeT
 split <;> exact lim_move h _ _
theorem lim_scroll (h : Lim W H T) (n : Int) : Lim W H (scrollT T n) := by
 unfold scrollT
 split
 ·exact { h.grid (G := upG T.grid T.top T.bot n T.cursor.sty) ⟨rfl, rfl⟩ with bk := keepB_len _ _ }
 ·exact h.grid (G := upG T.grid T.top T.bot n T.cursor.sty) ⟨rfl, rfl⟩
theorem lim_down (h : Lim W H T) : Lim W H (downT T) := by
 have h1 := h.g1
 have h2 := h.cu
 unfold downT
 split
 ·exact lim_scroll h 1
 ·split
  ·exact h.cursor ⟨h2.1, by dsimp only; omega, by dsimp only; omega⟩
  ·exact h
theorem lim_up (h : Lim W H T) : Lim W H (upT T) := by
 have h2 := h.cu
 unfold upT
 split
 ·exact h.grid (G := downG T.grid T.top T.bot 1 T.cursor.sty) ⟨rfl, rfl⟩
 ·split
  ·exact h.cursor ⟨h2.1, by dsimp only; omega, by dsimp only; omega⟩
  ·exact h
end
theorem colI_right {r : Int} (h : rightB r = true) : 1 ≤ colI r ∧ colI r ≤ 2 := by
 unfold colI
 by_cases hw : wideB r = true
 ·rw [if_pos hw]; omega
 ·rw [if_neg hw, if_pos h]; omega
theorem signT_cols (T : TS) (r : Int) (hW : 1 ≤ T.grid.w) : 1 ≤ (signT T r).2 ∧ (signT T r).2 ≤ 2 ∧ (signT T r).2 ≤ T.grid.w := by
 unfold signT
 dsimp only
 generalize (if ((T.shift && T.draw1) || (!T.shift && T.draw0)) = true then drawnI r else r) = q
 split
 ·simp only; omega
 ·rename_i h
  simp only [Bool.or_eq_true, Bool.not_eq_true', Bool.and_eq_true, beq_iff_eq, not_or, not_and] at h
  obtain ⟨h1, h2⟩ := h
  have h1' : rightB q = true := by simpa using h1
  have := colI_right h1'
  have e : colsI [q] = colI q := by simp [colsI]
  simp only [e]
  refine ⟨this.1, this.2, ?_⟩
  unfold colI at *
  cases hw : wideB q
  ·rw [hw] at this; simp [h1'] at *; omega
  ·have := h2 hw; simp; omega
def printA (T : TS) : TS := if (T.cursor.late && T.wrap) = true then downT { T with cursor := ⟨0, T.cursor.y, false, T.cursor.sty⟩ } else T
def printB (T : TS) (n : Int) : TS :=
 if T.grid.w < T.cursor.x + n then
  if T.wrap = true then downT { T with cursor := ⟨0, T.cursor.y, T.cursor.late, T.cursor.sty⟩ } else { T with cursor := ⟨T.cursor.x - 1, T.cursor.y, T.cursor.late, T.cursor.sty⟩ }
 else T
def printC (T : TS) (n : Int) : TS := if T.insert = true then { T with grid := openG T.grid T.cursor.x T.cursor.y n T.cursor.sty } else T
def printD (T : TS) (r : Int) : TS := { T with grid := putG T.grid T.cursor.x T.cursor.y ⟨r, T.cursor.sty⟩ }
def printE (T : TS) (n : Int) : TS := if T.cursor.x + n = T.grid.w then { T with cursor := ⟨T.grid.w - 1, T.cursor.y, T.wrap, T.cursor.sty⟩ } else { T with cursor := ⟨T.cursor.x + n, T.cursor.y, false, T.cursor.sty⟩ }
def printT (T : TS) (r : Int) : TS := printE (printD (printC (printB (printA T) (signT T r).2) (signT T r).2) (signT T r).1) (signT T r).2
section
variable {W H : Int} {T : TS}
theorem lim_printA (h : Lim W H T) : Lim W H (printA T) := by
 unfold printA
 have h2 := h.cu
 have h3 := h.wb
 split
 ·exact lim_down (h.cursor ⟨⟨by dsimp only; omega, by dsimp only; omega⟩, h2.2⟩)
 ·exact h
theorem lim_printB (h : Lim W H T) {n : Int} (hn : 1 ≤ n ∧ n ≤ 2 ∧ n ≤ W) : Lim W H (printB T n) := by
 unfold printB
 have h1 := h.g1
 have h2 := h.cu
 have h3 := h.wb
 split
 ·split
  ·exact lim_down (h.cursor ⟨⟨by dsimp only; omega, by dsimp only; omega⟩, h2.2⟩)
  ·exact h.cursor ⟨⟨by dsimp only; omega, by dsimp only; omega⟩, h2.2⟩
 ·exact h
theorem lim_printC (h : Lim W H T) (n : Int) : Lim W H (printC T n) := by
 unfold printC
 split
 ·exact h.grid (openG_w _ _ _ _ _)
 ·exact h
theorem printB_x (h : Lim W H T) {n : Int} (hn : 1 ≤ n ∧ n ≤ 2 ∧ n ≤ W) : (printB T n).cursor.x + n ≤ W := by
 have h1 := h.g1
 have h2 := h.cu
 have h3 := h.wb
 have hd : ∀ T' : TS, (downT T').cursor.x = T'.cursor.x := fun T' => by
  unfold downT scrollT
  split
  ·split <;> rfl
  ·split <;> rfl
 unfold printB
 split
 ·split
  ·rw [hd]; dsimp only; omega
  ·dsimp only; omega
 ·omega
theorem lim_printD (h : Lim W H T) (r : Int) : Lim W H (printD T r) := h.grid (putG_w T.grid T.cursor.x T.cursor.y ⟨r, T.cursor.sty⟩)
theorem lim_printE (h : Lim W H T) {n : Int} (hn : 1 ≤ n ∧ n ≤ 2) (hx : T.cursor.x + n ≤ W) : Lim W H (printE T n) := by
 unfold printE
 have h1 := h.g1
 have h2 := h.cu
 have h3 := h.wb
 split
 ·exact h.cursor (c := ⟨T.grid.w - 1, T.cursor.y, T.wrap, T.cursor.sty⟩) ⟨⟨by dsimp only; omega, by dsimp only; omega⟩, h2.2⟩
 ·exact h.cursor (c := ⟨T.cursor.x + n, T.cursor.y, false, T.cursor.sty⟩) ⟨⟨by dsimp only; omega, by dsimp only; omega⟩, h2.2⟩
theorem printC_x (T : TS) (n : Int) : (printC T n).cursor = T.cursor := by unfold printC; split <;> rfl
theorem lim_print (h : Lim W H T) (r : Int) : Lim W H (printT T r) := by
 have hn := signT_cols T r (by have := h.wb; have := h.g1; omega)
 rw [h.g1.1] at hn
 refine lim_printE (lim_printD (lim_printC (lim_printB (lim_printA h) hn) _) _) ⟨hn.1, hn.2.1⟩ ?_
 show (printC (printB (printA T) (signT T r).2) (signT T r).2).cursor.x + _ ≤ W
 rw [printC_x]
 exact printB_x (lim_printA h) hn
end
end Go.Proofs.YteoejhjfbfacdaaGreatDoor.X
namespace Go.Proofs.YteoejhjfbfacdaaGreatDoor.X
open Go Go.RowKit Go.Proofs.YteoejhjfbfacdaaGreatDoor
theorem TermAt.eq' {w : World} {t : Nat} {T T' : TS} {F : Nat → Prop} (h : TermAt w t T F) (e : T' = T) : TermAt w t T' F := e ▸ h
theorem down_lim {w : World} {t : Nat} {W H : Int} {T : TS} {F : Nat → Prop} (hA : TermAt w t T F) (hT : Tables w) (hL : Lim W H T) : Calls Tryz.prog 80 [pX t].toArray w fun e w' => e = .returned (.tuple #[]) ∧ TermAt w' t (downT T) (more F w w') ∧ Ch F w w' :=
  down_at hA hT (by have := hL.bk; omega) (by have := hL.tb; have := hL.cu; have := hL.hb; omega)
set_option maxHeartbeats 4000000 in
theorem print_at {w : World} {t : Nat} {W H : Int} {T : TS} {F : Nat → Prop} (hA0 : TermAt w t T F) (hT : Tables w) (hL : Lim W H T) (r : Int) : Calls Tryz.prog 50 [pX t, rX r].toArray w fun e w' => e = .returned (.tuple #[]) ∧ TermAt w' t (printT T r) (more F w w') ∧ Ch F w w' := by
 obtain ⟨g, o, ba, bn, bc, pa, pn, pc, F1, F2, FB, FP, hI⟩ := hA0
 have hA0 : TermAt w t T F := ⟨g, o, ba, bn, bc, pa, pn, pc, F1, F2, FB, FP, hI⟩
 have hFt := hI.inF.1
 obtain ⟨gv, hgd⟩ := hI.g1.head
 have htg : Df t g := fun e => hI.t1 (e ▸ hI.g1.inF)
 obtain ⟨⟨hw1, hw2⟩, ⟨hh1, hh2⟩, hll, hall⟩ := hI.g1.ok
 have hL0 := hL
 have hla := hL0.all
 refine yA Tryz.func50 rfl <| ysr <| yp 2 [] .z <| yo (yQ (sign_any hI hT r) fun w11 hc10 => ?_)
 have hS12 := Ch.trans (Ch.refl (fun j => j = t) w) hc10 eZ
 have ht14 := hI.blk.ch hc10 id
 have hT16 := tables_ch hc10 hT id id
 have hsg := signT_cols T r (by omega)
 rw [hL.g1.1] at hsg
 refine yp 8 [] .z <| ye <| x_seq_cut ([(0, pX t), (1, rX (signT T r).1), (4, iX (signT T r).2)]) (fun u => TermAt u t (printA T) (more F w u) ∧ Ch F w u) (fun K17 hK18 => ?_) (fun u19 hcut20 => ?_)
 ·refine ysr <| yp 6 [] (.l (ht14.c 4) .z) <| yw [16] (rY T.cursor.late) (fun hC21 => ?_) fun hC21 => ?_
  ·have hpp0 := hC21
   refine yp 11 [] (.l (ht14.c 88) .z) <| ye <| yc (rY T.wrap) (fun hC22 => ?_) fun hC22 => ?_
   ·have hpp1 := hC22
    refine ysr <| yp 5 [] .z <| yo (yS ht14 fun w23 hB24 hc25 => ?_)
    have hS27 := Ch.trans hS12 hc25 (fun i hi (h : i = t) => h)
    have hT29 := tables_ch hc25 hT16 (fun (h : gWide = t) => by have := hI.hi t hFt; have := g_lt; omega) (fun (h : gSigns = t) => by have := hI.hi t hFt; have := g_lt; omega)
    refine yp 9 [] .z <| yo (yS hB24 fun w30 hB31 hc32 => ?_)
    have hS34 := Ch.trans hS27 hc32 (fun i hi (h : i = t) => h)
    have hT36 := tables_ch hc32 hT29 (fun (h : gWide = t) => by have := hI.hi t hFt; have := g_lt; omega) (fun (h : gSigns = t) => by have := hI.hi t hFt; have := g_lt; omega)
    refine ye <| x_region <| yp 1 [] .z ?_
    have hL37 : Lim W H ({ T with cursor := (Cur.mk 0 T.cursor.y false T.cursor.sty) } : TS) := { hL with cu := ⟨⟨(show (0 : Int) ≤ 0 by omega), (show (0 : Int) < W by omega)⟩, (show (0 : Int) ≤ T.cursor.y by omega), (show (T.cursor.y : Int) < H by omega)⟩ }
    have hI38 := hI.scalar (T' := ({ T with cursor := (Cur.mk 0 T.cursor.y false T.cursor.sty) } : TS)) hS34 (Blk.to hB31 (by kernel_rfl)) rfl rfl rfl rfl
    have hX39 := hI.cht hS34
    have hA40 := hI38.pk1 hI hX39
    refine yo (yQ (down_lim hA40 hT36 hL37  ) ?_)
    rintro w46 ⟨hB41, hc42⟩
    obtain ⟨hN43, hX44⟩ := TermAt.next hA0 hX39 hc42 hB41
    have hL48 : Lim W H (downT ({ T with cursor := (Cur.mk 0 T.cursor.y false T.cursor.sty) } : TS)) := (lim_down hL37)
    generalize hE48 : (downT ({ T with cursor := (Cur.mk 0 T.cursor.y false T.cursor.sty) } : TS)) = T48 at hN43 hL48
    have hM48 := hL48
    have hla48 := hM48.all
    obtain ⟨g48, o48, ba48, bn48, bc48, pa48, pn48, pc48, F148, F248, FB48, FP48, hI45⟩ := hN43
    obtain ⟨gv48, hgd49⟩ := hI45.g1.head
    have htg50 : Df t g48 := fun e => hI45.t1 (e ▸ hI45.g1.inF)
    have hX51 := Ch.on hX44 (Ch.refl (fun j => j = t) w46) hFt
    have hA52 := hI45.pk2 (Ch.refl (fun j => j = t) w46) hI hX51
    refine yE (fun a ha => hK18 _ ⟨TermAt.eq' hA52 (by subst hE48; simp only [printA, hpp0, hpp1, ↓reduceIte, Bool.and_true, Bool.true_and, Bool.and_false, Bool.false_and, Bool.false_eq_true, Bool.true_eq_false, and_true, true_and, and_false, false_and, or_true, true_or, or_false, false_or]), hX51⟩ a (ha.kp [0, 1, 4]))
   have hpp1 := hC22
   have hI53 := hI.scalar (T' := T) hS12 ht14 rfl rfl rfl rfl
   have hX54 := hI.cht hS12
   have hA55 := hI53.pk1 hI hX54
   refine x_skip (fun a ha => hK18 _ ⟨TermAt.eq' hA55 (by simp only [printA, hpp0, hpp1, ↓reduceIte, Bool.and_true, Bool.true_and, Bool.and_false, Bool.false_and, Bool.false_eq_true, Bool.true_eq_false, and_true, true_and, and_false, false_and, or_true, true_or, or_false, false_or]), hX54⟩ a (ha.kp [0, 1, 4]))
  have hpp0 := hC21
  refine yp 11 [] .z <| ye <| ycf ?_
  have hI56 := hI.scalar (T' := T) hS12 ht14 rfl rfl rfl rfl
  have hX57 := hI.cht hS12
  have hA58 := hI56.pk1 hI hX57
  refine x_skip (fun a ha => hK18 _ ⟨TermAt.eq' hA58 (by simp only [printA, hpp0, ↓reduceIte, Bool.and_true, Bool.true_and, Bool.and_false, Bool.false_and, Bool.false_eq_true, Bool.true_eq_false, and_true, true_and, and_false, false_and, or_true, true_or, or_false, false_or]), hX57⟩ a (ha.kp [0, 1, 4]))
 obtain ⟨hN59, hX60⟩ := hcut20
 have hT62 := tables_ch hX60 hT (fun h => by have := (hI.hi _ h); have := g_lt; omega) (fun h => by have := (hI.hi _ h); have := g_lt; omega)
 have hL63 : Lim W H (printA T) := (lim_printA hL)
 generalize hE63 : (printA T) = T63 at hN59 hL63
 have hM63 := hL63
 have hla63 := hM63.all
 obtain ⟨g63, o63, ba63, bn63, bc63, pa63, pn63, pc63, F163, F263, FB63, FP63, hI61⟩ := hN59
 obtain ⟨gv63, hgd64⟩ := hI61.g1.head
 have htg65 : Df t g63 := fun e => hI61.t1 (e ▸ hI61.g1.inF)
 refine x_seq_cut ([(0, pX t), (1, rX (signT T r).1), (4, iX (signT T r).2)]) (fun u => TermAt u t (printB T63 (signT T r).2) (more F w u) ∧ Ch F w u) (fun K66 hK67 => ?_) (fun u68 hcut69 => ?_)
 ·refine ys <| yD [] fun w70 hH71 hc72 => ?_
  have hS73 := Ch.trans (Ch.refl (fun j => j = t) u19) hc72 eZ
  have hT74 := tables_ch hc72 hT62 id id
  have ht75 := hI61.blk.ch hc72 id
  have hg76 := hgd64.ch hc72 id
  refine yd (uL 0 15) [] (.l (ht75.c 2) (.q6 (T63.cursor.x + (signT T r).2) (.l (ht75.c 0) (.l (hg76.c 0) .z)))) <| yDe (nS ?_)
  refine yc (rL T63.grid.w (T63.cursor.x + (signT T r).2)) (fun hC77 => ?_) fun hC77 => ?_
  ·have hpp0 := hC77
   refine ysr <| yp 4 [] (.l (ht75.c 88) .z) <| ye <| yc (rY T63.wrap) (fun hC78 => ?_) fun hC78 => ?_
   ·have hpp1 := hC78
    refine ysr <| yp 4 [] .z <| yo (yS ht75 fun w79 hB80 hc81 => ?_)
    have hS83 := Ch.trans hS73 hc81 (fun i hi (h : i = t) => h)
    have hT84 := tables_ch hc81 hT74 (fun (h : gWide = t) => by have := hI.hi t hFt; have := g_lt; omega) (fun (h : gSigns = t) => by have := hI.hi t hFt; have := g_lt; omega)
    refine ye <| x_region <| yp 1 [] .z ?_
    have hL86 : Lim W H ({ T63 with cursor := (Cur.mk 0 T63.cursor.y T63.cursor.late T63.cursor.sty) } : TS) := { hL63 with cu := ⟨⟨(show (0 : Int) ≤ 0 by omega), (show (0 : Int) < W by omega)⟩, (show (0 : Int) ≤ T63.cursor.y by omega), (show (T63.cursor.y : Int) < H by omega)⟩ }
    have hI87 := hI61.scalar (T' := ({ T63 with cursor := (Cur.mk 0 T63.cursor.y T63.cursor.late T63.cursor.sty) } : TS)) hS83 (Blk.to hB80 (by kernel_rfl)) rfl rfl rfl rfl
    have hX88 := Ch.on hX60 hS83 hFt
    have hA89 := hI87.pk2 hS83 hI hX88
    refine yo (yQ (down_lim hA89 hT84 hL86  ) ?_)
    rintro w95 ⟨hB90, hc91⟩
    obtain ⟨hN92, hX93⟩ := TermAt.next hA0 hX88 hc91 hB90
    have hL97 : Lim W H (downT ({ T63 with cursor := (Cur.mk 0 T63.cursor.y T63.cursor.late T63.cursor.sty) } : TS)) := (lim_down hL86)
    generalize hE97 : (downT ({ T63 with cursor := (Cur.mk 0 T63.cursor.y T63.cursor.late T63.cursor.sty) } : TS)) = T97 at hN92 hL97
    have hM97 := hL97
    have hla97 := hM97.all
    obtain ⟨g97, o97, ba97, bn97, bc97, pa97, pn97, pc97, F197, F297, FB97, FP97, hI94⟩ := hN92
    obtain ⟨gv97, hgd98⟩ := hI94.g1.head
    have htg99 : Df t g97 := fun e => hI94.t1 (e ▸ hI94.g1.inF)
    have hX100 := Ch.on hX93 (Ch.refl (fun j => j = t) w95) hFt
    have hA101 := hI94.pk2 (Ch.refl (fun j => j = t) w95) hI hX100
    refine yE (fun a ha => hK67 _ ⟨TermAt.eq' hA101 (by subst hE97; simp only [printB, hpp0, hpp1, ↓reduceIte, Bool.and_true, Bool.true_and, Bool.and_false, Bool.false_and, Bool.false_eq_true, Bool.true_eq_false, and_true, true_and, and_false, false_and, or_true, true_or, or_false, false_or]), hX100⟩ a (ha.kp [0, 1, 4]))
   have hpp1 := hC78
   refine x_region <| yp 9 [] (.l (ht75.c 2) (.q6 (T63.cursor.x - 1) .z)) <| yo (yS ht75 fun w102 hB103 hc104 => ?_)
   have hS106 := Ch.trans hS73 hc104 (fun i hi (h : i = t) => h)
   have hI109 := hI61.scalar (T' := ({ T63 with cursor := (Cur.mk (T63.cursor.x - 1) T63.cursor.y T63.cursor.late T63.cursor.sty) } : TS)) hS106 (Blk.to hB103 (by kernel_rfl)) rfl rfl rfl rfl
   have hX110 := Ch.on hX60 hS106 hFt
   have hA111 := hI109.pk2 hS106 hI hX110
   refine yE (fun a ha => hK67 _ ⟨TermAt.eq' hA111 (by simp only [printB, hpp0, hpp1, ↓reduceIte, Bool.and_true, Bool.true_and, Bool.and_false, Bool.false_and, Bool.false_eq_true, Bool.true_eq_false, and_true, true_and, and_false, false_and, or_true, true_or, or_false, false_or]), hX110⟩ a (ha.kp [0, 1, 4]))
  have hpp0 := hC77
  have hI112 := hI61.scalar (T' := T63) hS73 ht75 rfl rfl rfl rfl
  have hX113 := Ch.on hX60 hS73 hFt
  have hA114 := hI112.pk2 hS73 hI hX113
  refine x_skip (fun a ha => hK67 _ ⟨TermAt.eq' hA114 (by simp only [printB, hpp0, ↓reduceIte, Bool.and_true, Bool.true_and, Bool.and_false, Bool.false_and, Bool.false_eq_true, Bool.true_eq_false, and_true, true_and, and_false, false_and, or_true, true_or, or_false, false_or]), hX113⟩ a (ha.kp [0, 1, 4]))
 obtain ⟨hN115, hX116⟩ := hcut69
 have hT118 := tables_ch hX116 hT (fun h => by have := (hI.hi _ h); have := g_lt; omega) (fun h => by have := (hI.hi _ h); have := g_lt; omega)
 have hL119 : Lim W H (printB T63 (signT T r).2) := (lim_printB hL63 hsg)
 generalize hE119 : (printB T63 (signT T r).2) = T119 at hN115 hL119
 have hM119 := hL119
 have hla119 := hM119.all
 obtain ⟨g119, o119, ba119, bn119, bc119, pa119, pn119, pc119, F1119, F2119, FB119, FP119, hI117⟩ := hN115
 obtain ⟨gv119, hgd120⟩ := hI117.g1.head
 have htg121 : Df t g119 := fun e => hI117.t1 (e ▸ hI117.g1.inF)
 refine x_seq_cut ([(0, pX t), (1, rX (signT T r).1), (4, iX (signT T r).2)]) (fun u => TermAt u t (printC T119 (signT T r).2) (more F w u) ∧ Ch F w u) (fun K122 hK123 => ?_) (fun u124 hcut125 => ?_)
 ·refine ysr <| yp 4 [] (.l (hI117.blk.c 90) .z) <| ye <| yc (rY T119.insert) (fun hC126 => ?_) fun hC126 => ?_
  ·have hpp0 := hC126
   refine yD [20] fun w127 hH128 hc129 => ?_
   have hS130 := Ch.trans (Ch.refl (fun j => j = t) u68) hc129 eZ
   have hT131 := tables_ch hc129 hT118 id id
   have ht132 := hI117.blk.ch hc129 id
   refine yd (uL 0 20) [] (.l (ht132.c 0) (.l (ht132.c 2) (.l (ht132.c 3) (.a (ht132.cs 5 5) .z)))) ?_
   have hI134 := hI117.scalar (T' := T119) hS130 ht132 rfl rfl rfl rfl
   have hX135 := Ch.on hX116 hS130 hFt
   have hA136 := hI134.pk2 hS130 hI hX135
   have hI137 := hI134.mono (F' := more F w w127) (fun b hb => hb.elim .inl (fun h2 => .inr ⟨h2.1, by have := Ch.size hS130; omega⟩)) (hI.moreOk hX135.size)
   refine yK 20 (yQ (open_any _ _ _ (T119.cursor.x) (T119.cursor.y) ((signT T r).2) T119.cursor.sty _ hT131 hI137.g1) ?_)
   rintro w143 ⟨hG138, hc139⟩
   obtain ⟨hN140, hX141⟩ := TermAt.next hA0 hX135 (hI137.chF hc139) ⟨_, _, _, _, _, _, _, _, _, _, _, _, hI137.grid1 hc139 hG138 (fun _ h => h)⟩
   have hc139m := hI137.chF hc139
   have hL145 : Lim W H ({ T119 with grid := (openG T119.grid (T119.cursor.x) (T119.cursor.y) ((signT T r).2) T119.cursor.sty) } : TS) := hL119.grid (openG_w _ _ _ _ _)
   generalize hE145 : ({ T119 with grid := (openG T119.grid (T119.cursor.x) (T119.cursor.y) ((signT T r).2) T119.cursor.sty) } : TS) = T145 at hN140 hL145
   have hM145 := hL145
   have hla145 := hM145.all
   obtain ⟨g145, o145, ba145, bn145, bc145, pa145, pn145, pc145, F1145, F2145, FB145, FP145, hI142⟩ := hN140
   obtain ⟨gv145, hgd146⟩ := hI142.g1.head
   have htg147 : Df t g145 := fun e => hI142.t1 (e ▸ hI142.g1.inF)
   refine x_killed ?_
   have hX148 := Ch.on hX141 (Ch.refl (fun j => j = t) w143) hFt
   have hA149 := hI142.pk2 (Ch.refl (fun j => j = t) w143) hI hX148
   refine yDe (fun a ha => hK123 _ ⟨TermAt.eq' hA149 (by subst hE145; simp only [printC, hpp0, ↓reduceIte, Bool.and_true, Bool.true_and, Bool.and_false, Bool.false_and, Bool.false_eq_true, Bool.true_eq_false, and_true, true_and, and_false, false_and, or_true, true_or, or_false, false_or]), hX148⟩ a (ha.kp [0, 1, 4]))
  have hpp0 := hC126
  have hX150 := Ch.on hX116 (Ch.refl (fun j => j = t) u68) hFt
  have hA151 := hI117.pk2 (Ch.refl (fun j => j = t) u68) hI hX150
  refine x_skip (fun a ha => hK123 _ ⟨TermAt.eq' hA151 (by simp only [printC, hpp0, ↓reduceIte, Bool.and_true, Bool.true_and, Bool.and_false, Bool.false_and, Bool.false_eq_true, Bool.true_eq_false, and_true, true_and, and_false, false_and, or_true, true_or, or_false, false_or]), hX150⟩ a (ha.kp [0, 1, 4]))
 obtain ⟨hN152, hX153⟩ := hcut125
 have hT155 := tables_ch hX153 hT (fun h => by have := (hI.hi _ h); have := g_lt; omega) (fun h => by have := (hI.hi _ h); have := g_lt; omega)
 have hL156 : Lim W H (printC T119 (signT T r).2) := (lim_printC hL119 _)
 generalize hE156 : (printC T119 (signT T r).2) = T156 at hN152 hL156
 have hM156 := hL156
 have hla156 := hM156.all
 obtain ⟨g156, o156, ba156, bn156, bc156, pa156, pn156, pc156, F1156, F2156, FB156, FP156, hI154⟩ := hN152
 obtain ⟨gv156, hgd157⟩ := hI154.g1.head
 have htg158 : Df t g156 := fun e => hI154.t1 (e ▸ hI154.g1.inF)
 refine x_seq_cut ([(0, pX t), (4, iX (signT T r).2)]) (fun u => TermAt u t (printD T156 (signT T r).1) (more F w u) ∧ Ch F w u) (fun K159 hK160 => ?_) (fun u161 hcut162 => ?_)
 ·refine yD [21] fun w163 hH164 hc165 => ?_
  have hS166 := Ch.trans (Ch.refl (fun j => j = t) u124) hc165 eZ
  have hT167 := tables_ch hc165 hT155 id id
  have ht168 := hI154.blk.ch hc165 id
  refine yd (uL 0 21) [] (.l (ht168.c 0) (.l (ht168.c 2) (.l (ht168.c 3) (.a (ht168.cs 5 5) .z)))) ?_
  have hI170 := hI154.scalar (T' := T156) hS166 ht168 rfl rfl rfl rfl
  have hX171 := Ch.on hX153 hS166 hFt
  have hA172 := hI170.pk2 hS166 hI hX171
  have hI173 := hI170.mono (F' := more F w w163) (fun b hb => hb.elim .inl (fun h2 => .inr ⟨h2.1, by have := Ch.size hS166; omega⟩)) (hI.moreOk hX171.size)
  refine yK 21 (yQ (put_any _ _ _ (T156.cursor.x) (T156.cursor.y) (Cel.mk (signT T r).1 T156.cursor.sty) _ hT167 hI173.g1) ?_)
  rintro w179 ⟨hG174, hc175⟩
  obtain ⟨hN176, hX177⟩ := TermAt.next hA0 hX171 (hI173.chF hc175) ⟨_, _, _, _, _, _, _, _, _, _, _, _, hI173.grid1 hc175 hG174 (fun _ h => h)⟩
  have hc175m := hI173.chF hc175
  have hL181 : Lim W H ({ T156 with grid := (putG T156.grid (T156.cursor.x) (T156.cursor.y) (Cel.mk (signT T r).1 T156.cursor.sty)) } : TS) := hL156.grid (putG_w _ _ _ _)
  generalize hE181 : ({ T156 with grid := (putG T156.grid (T156.cursor.x) (T156.cursor.y) (Cel.mk (signT T r).1 T156.cursor.sty)) } : TS) = T181 at hN176 hL181
  have hM181 := hL181
  have hla181 := hM181.all
  obtain ⟨g181, o181, ba181, bn181, bc181, pa181, pn181, pc181, F1181, F2181, FB181, FP181, hI178⟩ := hN176
  obtain ⟨gv181, hgd182⟩ := hI178.g1.head
  have htg183 : Df t g181 := fun e => hI178.t1 (e ▸ hI178.g1.inF)
  refine x_killed ?_
  have hX184 := Ch.on hX177 (Ch.refl (fun j => j = t) w179) hFt
  have hA185 := hI178.pk2 (Ch.refl (fun j => j = t) w179) hI hX184
  refine yDe (fun a ha => hK160 _ ⟨TermAt.eq' hA185 (by subst hE181; simp only [printD, ↓reduceIte, Bool.and_true, Bool.true_and, Bool.and_false, Bool.false_and, Bool.false_eq_true, Bool.true_eq_false, and_true, true_and, and_false, false_and, or_true, true_or, or_false, false_or]), hX184⟩ a (ha.kp [0, 4]))
 obtain ⟨hN186, hX187⟩ := hcut162
 have hL190 : Lim W H (printD T156 (signT T r).1) := (lim_printD hL156 _)
 generalize hE190 : (printD T156 (signT T r).1) = T190 at hN186 hL190
 have hM190 := hL190
 have hla190 := hM190.all
 obtain ⟨g190, o190, ba190, bn190, bc190, pa190, pn190, pc190, F1190, F2190, FB190, FP190, hI188⟩ := hN186
 obtain ⟨gv190, hgd191⟩ := hI188.g1.head
 have htg192 : Df t g190 := fun e => hI188.t1 (e ▸ hI188.g1.inF)
 refine ysr <| yp 12 [] (.l (hI188.blk.c 2) (.q6 (T190.cursor.x + (signT T r).2) .z)) <| yo (yS hI188.blk fun w193 hB194 hc195 => ?_)
 have hS197 := Ch.trans (Ch.refl (fun j => j = t) u161) hc195 (fun i hi (h : i = t) => h)
 have hg199 := hgd191.ch hc195 (fun h => htg192 h.symm)
 refine yp 16 [] .z <| yo (yS hB194 fun w200 hB201 hc202 => ?_)
 have hS204 := Ch.trans hS197 hc202 (fun i hi (h : i = t) => h)
 have hg206 := hg199.ch hc202 (fun h => htg192 h.symm)
 refine ye <| ys <| yD [] fun w207 hH208 hc209 => ?_
 have hS210 := Ch.trans hS204 hc209 eZ
 have hg212 := hg206.ch hc209 id
 have ht213 := hB201.ch hc209 id
 refine yd (uL 0 13) [] (.l (ht213.c 2) (.l (ht213.c 0) (.l (hg212.c 0) .z))) <| yDe (nS ?_)
 refine yc (rE (T190.cursor.x + (signT T r).2) T190.grid.w) (fun hC214 => ?_) fun hC214 => ?_
 ·have hpp0 := hC214
  refine yD [17, 21] fun w215 hH216 hc217 => ?_
  have hS218 := Ch.trans hS210 hc217 eZ
  have hg220 := hg212.ch hc217 id
  have ht221 := ht213.ch hc217 id
  refine yd (uL 0 17) [] (.l (ht221.c 0) (.l (hg220.c 0) (.q6 (T190.grid.w - 1) (.l (ht221.c 88) .z)))) <| yK 17 (yS ht221 fun w222 hB223 hc224 => ?_)
  have hS226 := Ch.trans hS218 hc224 (fun i hi (h : i = t) => h)
  refine x_killed <| yd (uL 18 3) [] .z <| yK 21 (yS hB223 fun w229 hB230 hc231 => ?_)
  have hS233 := Ch.trans hS226 hc231 (fun i hi (h : i = t) => h)
  refine x_killed <| yDe (yR0' ?_)
  have hI236 := hI188.scalar (T' := ({ T190 with cursor := (Cur.mk (T190.grid.w - 1) T190.cursor.y T190.wrap T190.cursor.sty) } : TS)) hS233 (Blk.to hB230 (by kernel_rfl)) rfl rfl rfl rfl
  have hX237 := Ch.on hX187 hS233 hFt
  have hA238 := hI236.pk2 hS233 hI hX237
  subst hE190
  subst hE156
  subst hE119
  subst hE63
  refine ⟨rfl, TermAt.eq' hA238 ?_, hX237⟩
  simp only [printT, printE, eq_true hpp0, ↓reduceIte, Int.reduceEq, Int.reduceLT, Int.reduceLE, Bool.and_true, Bool.true_and, Bool.and_false, Bool.false_and, Bool.false_eq_true, Bool.true_eq_false, and_true, true_and, and_false, false_and, or_true, true_or, or_false, false_or]
 have hpp0 := hC214
 refine x_skip (yR0' ?_)
 have hI239 := hI188.scalar (T' := ({ T190 with cursor := (Cur.mk (T190.cursor.x + (signT T r).2) T190.cursor.y false T190.cursor.sty) } : TS)) hS210 (Blk.to ht213 (by kernel_rfl)) rfl rfl rfl rfl
 have hX240 := Ch.on hX187 hS210 hFt
 have hA241 := hI239.pk2 hS210 hI hX240
 subst hE190
 subst hE156
 subst hE119
 subst hE63
 refine ⟨rfl, TermAt.eq' hA241 ?_, hX240⟩
 simp only [printT, printE, hpp0, ↓reduceIte, Int.reduceEq, Int.reduceLT, Int.reduceLE, Bool.and_true, Bool.true_and, Bool.and_false, Bool.false_and, Bool.false_eq_true, Bool.true_eq_false, and_true, true_and, and_false, false_and, or_true, true_or, or_false, false_or]
end Go.Proofs.YteoejhjfbfacdaaGreatDoor.X
namespace Go.Proofs.YteoejhjfbfacdaaGreatDoor.X
open Go Go.RowKit Go.Proofs.YteoejhjfbfacdaaGreatDoor
theorem tabv_at (f : Nat → Bool) (k : Nat) (h : k < 60) : (tabv f)[k]? = some (.bool (f k)) := by simp [tabv, h]
theorem tab_cell {w : World} {t g o : Nat} {T : TS} {bk ps : Value} (h : Blk w t (T.vals g o bk ps) tTerm) (x : Int) (h0 : 0 ≤ x) (h1 : x < 60) : w.cell? ⟨t, 28 + x.toNat * 1, none⟩ = some (.bool (T.tabs x.toNat)) := by
  rw [h.cell]
  have h2 : ∀ (a b c : List Value) (k : Nat), k < b.length → (a ++ b ++ c)[a.length + k]? = b[k]? := fun a b c k hk => by
    rw [List.append_assoc, List.getElem?_append_right (by omega), List.getElem?_append_left (by omega)]; congr 1; omega
  have h3 : (tabv T.tabs).length = 60 := by simp [tabv]
  unfold TS.vals
  have := h2 [.pointer (some ⟨g, 0, none⟩), .pointer (some ⟨o, 0, none⟩),
   .int .i64 T.cursor.x, .int .i64 T.cursor.y, .bool T.cursor.late, .bool T.cursor.sty.bold, .bool T.cursor.sty.under, .bool T.cursor.sty.turned, .int .i64 T.cursor.sty.fore, .int .i64 T.cursor.sty.back,
   .int .i64 T.saved.x, .int .i64 T.saved.y, .bool T.saved.late, .bool T.saved.sty.bold, .bool T.saved.sty.under, .bool T.saved.sty.turned, .int .i64 T.saved.sty.fore, .int .i64 T.saved.sty.back,
   .int .i64 T.away.x, .int .i64 T.away.y, .bool T.away.late, .bool T.away.sty.bold, .bool T.away.sty.under, .bool T.away.sty.turned, .int .i64 T.away.sty.fore, .int .i64 T.away.sty.back,
   .int .i64 T.top, .int .i64 T.bot] (tabv T.tabs)
  rw [Nat.mul_one]
  exact (this _ x.toNat (by rw [h3]; omega)).trans (tabv_at _ _ (by omega))
def tabN (T : TS) : Nat → Int → Int
  | 0, x => x
  | k + 1, x => if x < T.grid.w - 1 ∧ T.tabs x.toNat = false then tabN T k (x + 1) else x
def tabT (T : TS) : TS := moveT T (tabN T 60 (T.cursor.x + 1)) T.cursor.y
theorem tabN_go {T : TS} {k : Nat} {x y : Int} (h : tabN T (60 - k) x = y) (hk : k < 60) (h1 : x < T.grid.w - 1) (h2 : T.tabs x.toNat = false) : tabN T (60 - (k + 1)) (x + 1) = y := by
  rw [show 60 - k = (60 - (k + 1)) + 1 by omega] at h
  unfold tabN at h
  rwa [if_pos ⟨h1, h2⟩] at h
theorem tabN_end {T : TS} {k : Nat} {x y : Int} (h : tabN T (60 - k) x = y) (h1 : ¬ (x < T.grid.w - 1 ∧ T.tabs x.toNat = false)) : y = x := by
  cases hk : 60 - k with
  | zero => rw [hk] at h; exact h.symm
  | succ n => rw [hk] at h; unfold tabN at h; rw [if_neg h1] at h; exact h.symm
def lateT (T : TS) (b : Bool) : TS := { T with cursor := ⟨T.cursor.x, T.cursor.y, b, T.cursor.sty⟩ }
def execT (T : TS) (c : Int) : TS :=
  if c = 8 then moveT T (T.cursor.x - 1) T.cursor.y
  else if c = 9 then tabT T
  else if c = 10 then lateT (downT T) false
  else if c = 11 then lateT (downT T) false
  else if c = 12 then lateT (downT T) false
  else if c = 13 then moveT T 0 T.cursor.y
  else if c = 14 then { T with shift := ((c : Int) == 14) }
  else if c = 15 then { T with shift := ((c : Int) == 14) }
  else T
section
variable {W H : Int} {T : TS}
theorem lim_late (h : Lim W H T) (b : Bool) : Lim W H (lateT T b) := h.cursor h.cu
theorem lim_exec (h : Lim W H T) (c : Int) : Lim W H (execT T c) := by
  unfold execT
  repeat' split
  all_goals first | exact lim_move h _ _ | exact lim_late (lim_down h) _ | exact { h with } | exact h
end
end Go.Proofs.YteoejhjfbfacdaaGreatDoor.X
namespace Go.Proofs.YteoejhjfbfacdaaGreatDoor.X
open Go Go.RowKit Go.Proofs.YteoejhjfbfacdaaGreatDoor
theorem move_lim {w : World} {t : Nat} {W H : Int} {T : TS} {F : Nat → Prop} (hA : TermAt w t T F) (hT : Tables w) (hL : Lim W H T) (x y : Int) : Calls Tryz.prog 83 [pX t, iX x, iX y].toArray w fun e w' => e = .returned (.tuple #[]) ∧ TermAt w' t (moveT T x y) (more F w w') ∧ Ch F w w' := move_at hA x y
set_option maxHeartbeats 4000000 in
theorem exec_at {w : World} {t : Nat} {W H : Int} {T : TS} {F : Nat → Prop} (hA0 : TermAt w t T F) (hT : Tables w) (hL : Lim W H T) (c : Int) : Calls Tryz.prog 51 [pX t, uX c].toArray w fun e w' => e = .returned (.tuple #[]) ∧ TermAt w' t (execT T c) (more F w w') ∧ Ch F w w' := by
 obtain ⟨g, o, ba, bn, bc, pa, pn, pc, F1, F2, FB, FP, hI⟩ := hA0
 have hA0 : TermAt w t T F := ⟨g, o, ba, bn, bc, pa, pn, pc, F1, F2, FB, FP, hI⟩
 have hFt := hI.inF.1
 obtain ⟨gv, hgd⟩ := hI.g1.head
 have htg : Df t g := fun e => hI.t1 (e ▸ hI.g1.inF)
 obtain ⟨⟨hw1, hw2⟩, ⟨hh1, hh2⟩, hll, hall⟩ := hI.g1.ok
 have hL0 := hL
 have hla := hL0.all
 refine yA Tryz.func51 rfl <| ysr <| yp 1 [] .z <| ye <| x_block <| ysr <| yp 2 [] .z <| ye <| yc (rE c 8) (fun hC10 => ?_) fun hC10 => ?_
 ·have hpp0 := hC10
  refine yD [12] fun w11 hH12 hc13 => ?_
  have hS14 := Ch.trans (Ch.refl (fun j => j = t) w) hc13 eZ
  have ht16 := hI.blk.ch hc13 id
  have hT18 := tables_ch hc13 hT id id
  refine yd (uL 0 12) [] (.l (ht16.c 2) (.q6 (T.cursor.x - 1) (.l (ht16.c 3) .z))) ?_
  have hI19 := hI.scalar (T' := T) hS14 ht16 rfl rfl rfl rfl
  have hX20 := hI.cht hS14
  have hA21 := hI19.pk1 hI hX20
  refine yK 12 (yQ (move_lim hA21 hT18 hL  ((T.cursor.x - 1)) (T.cursor.y)) ?_)
  rintro w27 ⟨hB22, hc23⟩
  obtain ⟨hN24, hX25⟩ := TermAt.next hA0 hX20 hc23 hB22
  have hL29 : Lim W H (moveT T ((T.cursor.x - 1)) (T.cursor.y)) := (lim_move hL ((T.cursor.x - 1)) (T.cursor.y))
  generalize hE29 : (moveT T ((T.cursor.x - 1)) (T.cursor.y)) = T29 at hN24 hL29
  have hM29 := hL29
  have hla29 := hM29.all
  obtain ⟨g29, o29, ba29, bn29, bc29, pa29, pn29, pc29, F129, F229, FB29, FP29, hI26⟩ := hN24
  obtain ⟨gv29, hgd30⟩ := hI26.g1.head
  have htg31 : Df t g29 := fun e => hI26.t1 (e ▸ hI26.g1.inF)
  refine x_killed <| yDe (nB (yR0' ?_))
  have hX32 := Ch.on hX25 (Ch.refl (fun j => j = t) w27) hFt
  have hA33 := hI26.pk2 (Ch.refl (fun j => j = t) w27) hI hX32
  subst hE29
  refine ⟨rfl, TermAt.eq' hA33 ?_, hX32⟩
  simp only [execT, tabT, lateT, hpp0, ↓reduceIte, Int.reduceEq, Int.reduceLT, Int.reduceLE, Bool.and_true, Bool.true_and, Bool.and_false, Bool.false_and, Bool.false_eq_true, Bool.true_eq_false, and_true, true_and, and_false, false_and, or_true, true_or, or_false, false_or]
 have hpp0 := hC10
 refine ysr <| yp 2 [] .z <| ye <| yc (rE c 9) (fun hC34 => ?_) fun hC34 => ?_
 ·have hpp1 := hC34
  refine ysr <| yp 7 [] (.l (hI.blk.c 2) (.q6 (T.cursor.x + 1) .z)) <| ye <| ys <| x_block <| ykeep [0, 4] (f' := [(0, pX t), (4, iX (T.cursor.x + 1))]) <| x_loop (σ := Nat) (fun k => [(0, pX t), (4, iX (T.cursor.x + 1 + ((k : Nat) : Int)))]) (fun k u => k ≤ 59 ∧ tabN T (60 - k) (T.cursor.x + 1 + ((k : Nat) : Int)) = tabN T 60 (T.cursor.x + 1) ∧ Ch (fun _ => False) w u) (fun k => 60 - k) 0 (by simp) ?_ ?_
  ·exact ⟨by omega, by simp, Ch.refl _ _⟩
  intro k w35 hI36 K37 hL38
  obtain ⟨hk1, hk2, hc39⟩ := hI36
  have hS40 := Ch.trans (Ch.refl (fun j => j = t) w) hc39 eZ
  have ht42 := hI.blk.ch hc39 id
  have hg43 := hgd.ch hc39 id
  have hT44 := tables_ch hc39 hT id id
  refine ys <| ysr <| yp 11 [] (.l (ht42.c 0) (.l (hg43.c 0) (.q6 (T.grid.w - 1) .z))) <| yw [39] (rL (T.cursor.x + 1 + ((k : Nat) : Int)) (T.grid.w - 1)) (fun hC45 => ?_) fun hC45 => ?_
  ·refine yp 19 [] (.i (T.cursor.x + 1 + ((k : Nat) : Int)) (60) (.l (tab_cell ht42 ((T.cursor.x + 1 + ((k : Nat) : Int))) (by omega) (by omega)) .z)) <| ye <| yc (rN (rY (T.tabs ((T.cursor.x + 1 + ((k : Nat) : Int)) : Int).toNat))) (fun hC46 => ?_) fun hC46 => ?_
   ·refine yk <| x_block <| x_region <| yp 3 [] (.q6 ((T.cursor.x + 1 + ((k : Nat) : Int)) + 1) .z) <| yE (nB  (fun a ha => hL38 (k + 1) _ ⟨by omega, by rw [show T.cursor.x + 1 + ((k + 1 : Nat) : Int) = (T.cursor.x + 1 + ((k : Nat) : Int)) + 1 by omega]; exact tabN_go hk2 (by omega) (by omega) (by assumption), hc39⟩ (by show 60 - (k + 1) < 60 - k; omega) a (by rw [show (T.cursor.x + 1 + ((k + 1 : Nat) : Int)) = (T.cursor.x + 1 + ((k : Nat) : Int)) + 1 by omega]; exact ha.kp [0, 4])))
   have hfx := tabN_end hk2 (fun h2 => by rw [hC46] at h2; exact absurd h2.2 (by decide))
   refine x_exit (eS (then_exit (block_exit (nS ?_))))
   refine x_region <| yp 7 [] (.l (ht42.c 3) .z) ?_
   have hI47 := hI.scalar (T' := T) hS40 ht42 rfl rfl rfl rfl
   have hX48 := hI.cht hS40
   have hA49 := hI47.pk1 hI hX48
   refine yo (yQ (move_lim hA49 hT44 hL  ((T.cursor.x + 1 + ((k : Nat) : Int))) (T.cursor.y)) ?_)
   rintro w55 ⟨hB50, hc51⟩
   obtain ⟨hN52, hX53⟩ := TermAt.next hA0 hX48 hc51 hB50
   have hL57 : Lim W H (moveT T ((T.cursor.x + 1 + ((k : Nat) : Int))) (T.cursor.y)) := (lim_move hL ((T.cursor.x + 1 + ((k : Nat) : Int))) (T.cursor.y))
   generalize hE57 : (moveT T ((T.cursor.x + 1 + ((k : Nat) : Int))) (T.cursor.y)) = T57 at hN52 hL57
   have hM57 := hL57
   have hla57 := hM57.all
   obtain ⟨g57, o57, ba57, bn57, bc57, pa57, pn57, pc57, F157, F257, FB57, FP57, hI54⟩ := hN52
   obtain ⟨gv57, hgd58⟩ := hI54.g1.head
   have htg59 : Df t g57 := fun e => hI54.t1 (e ▸ hI54.g1.inF)
   refine yE (nB (yR0' ?_))
   have hX60 := Ch.on hX53 (Ch.refl (fun j => j = t) w55) hFt
   have hA61 := hI54.pk2 (Ch.refl (fun j => j = t) w55) hI hX60
   subst hE57
   refine ⟨rfl, TermAt.eq' hA61 ?_, hX60⟩
   simp only [execT, tabT, lateT, hpp0, hpp1, hfx, ↓reduceIte, Int.reduceEq, Int.reduceLT, Int.reduceLE, Bool.and_true, Bool.true_and, Bool.and_false, Bool.false_and, Bool.false_eq_true, Bool.true_eq_false, and_true, true_and, and_false, false_and, or_true, true_or, or_false, false_or]
  have hfx := tabN_end hk2 (fun h => by omega)
  refine yp 19 [] .z <| ye <| ycf <| x_exit (eS (then_exit (block_exit (nS ?_))))
  refine x_region <| yp 7 [] (.l (ht42.c 3) .z) ?_
  have hI62 := hI.scalar (T' := T) hS40 ht42 rfl rfl rfl rfl
  have hX63 := hI.cht hS40
  have hA64 := hI62.pk1 hI hX63
  refine yo (yQ (move_lim hA64 hT44 hL  ((T.cursor.x + 1 + ((k : Nat) : Int))) (T.cursor.y)) ?_)
  rintro w70 ⟨hB65, hc66⟩
  obtain ⟨hN67, hX68⟩ := TermAt.next hA0 hX63 hc66 hB65
  have hL72 : Lim W H (moveT T ((T.cursor.x + 1 + ((k : Nat) : Int))) (T.cursor.y)) := (lim_move hL ((T.cursor.x + 1 + ((k : Nat) : Int))) (T.cursor.y))
  generalize hE72 : (moveT T ((T.cursor.x + 1 + ((k : Nat) : Int))) (T.cursor.y)) = T72 at hN67 hL72
  have hM72 := hL72
  have hla72 := hM72.all
  obtain ⟨g72, o72, ba72, bn72, bc72, pa72, pn72, pc72, F172, F272, FB72, FP72, hI69⟩ := hN67
  obtain ⟨gv72, hgd73⟩ := hI69.g1.head
  have htg74 : Df t g72 := fun e => hI69.t1 (e ▸ hI69.g1.inF)
  refine yE (nB (yR0' ?_))
  have hX75 := Ch.on hX68 (Ch.refl (fun j => j = t) w70) hFt
  have hA76 := hI69.pk2 (Ch.refl (fun j => j = t) w70) hI hX75
  subst hE72
  refine ⟨rfl, TermAt.eq' hA76 ?_, hX75⟩
  simp only [execT, tabT, lateT, hpp0, hpp1, hfx, ↓reduceIte, Int.reduceEq, Int.reduceLT, Int.reduceLE, Bool.and_true, Bool.true_and, Bool.and_false, Bool.false_and, Bool.false_eq_true, Bool.true_eq_false, and_true, true_and, and_false, false_and, or_true, true_or, or_false, false_or]
 have hpp1 := hC34
 refine ys <| ysr <| yp 2 [] .z <| ye <| yc (rE c 10) (fun hC77 => ?_) fun hC77 => ?_
 ·have hpp2 := hC77
  refine yk <| yc (rE c 10) (fun hC78 => ?_) fun hC78 => ?_
  ·have hpp3 := hC78
   refine ysr <| yp 1 [] .z ?_
   have hX79 := hI.cht (Ch.refl (fun j => j = t) w)
   have hA80 := hI.pk1 hI hX79
   refine yo (yQ (down_lim hA80 hT hL  ) ?_)
   rintro w86 ⟨hB81, hc82⟩
   obtain ⟨hN83, hX84⟩ := TermAt.next hA0 hX79 hc82 hB81
   have hL88 : Lim W H (downT T) := (lim_down hL)
   generalize hE88 : (downT T) = T88 at hN83 hL88
   have hM88 := hL88
   have hla88 := hM88.all
   obtain ⟨g88, o88, ba88, bn88, bc88, pa88, pn88, pc88, F188, F288, FB88, FP88, hI85⟩ := hN83
   obtain ⟨gv88, hgd89⟩ := hI85.g1.head
   have htg90 : Df t g88 := fun e => hI85.t1 (e ▸ hI85.g1.inF)
   refine ye <| x_region <| yp 4 [] .z <| yo (yS hI85.blk fun w91 hB92 hc93 => ?_)
   have hS95 := Ch.trans (Ch.refl (fun j => j = t) w86) hc93 (fun i hi (h : i = t) => h)
   refine yE (nB (yR0' ?_))
   have hI98 := hI85.scalar (T' := ({ T88 with cursor := (Cur.mk T88.cursor.x T88.cursor.y false T88.cursor.sty) } : TS)) hS95 (Blk.to hB92 (by kernel_rfl)) rfl rfl rfl rfl
   have hX99 := Ch.on hX84 hS95 hFt
   have hA100 := hI98.pk2 hS95 hI hX99
   subst hE88
   refine ⟨rfl, TermAt.eq' hA100 ?_, hX99⟩
   simp only [execT, tabT, lateT, hpp0, hpp1, hpp2, hpp3, ↓reduceIte, Int.reduceEq, Int.reduceLT, Int.reduceLE, Bool.and_true, Bool.true_and, Bool.and_false, Bool.false_and, Bool.false_eq_true, Bool.true_eq_false, and_true, true_and, and_false, false_and, or_true, true_or, or_false, false_or]
  exfalso; omega
 have hpp2 := hC77
 refine ysr <| yp 2 [] .z <| ye <| yc (rE c 11) (fun hC101 => ?_) fun hC101 => ?_
 ·have hpp3 := hC101
  refine yk <| yc (rE c 11) (fun hC102 => ?_) fun hC102 => ?_
  ·have hpp4 := hC102
   refine ysr <| yp 1 [] .z ?_
   have hX103 := hI.cht (Ch.refl (fun j => j = t) w)
   have hA104 := hI.pk1 hI hX103
   refine yo (yQ (down_lim hA104 hT hL  ) ?_)
   rintro w110 ⟨hB105, hc106⟩
   obtain ⟨hN107, hX108⟩ := TermAt.next hA0 hX103 hc106 hB105
   have hL112 : Lim W H (downT T) := (lim_down hL)
   generalize hE112 : (downT T) = T112 at hN107 hL112
   have hM112 := hL112
   have hla112 := hM112.all
   obtain ⟨g112, o112, ba112, bn112, bc112, pa112, pn112, pc112, F1112, F2112, FB112, FP112, hI109⟩ := hN107
   obtain ⟨gv112, hgd113⟩ := hI109.g1.head
   have htg114 : Df t g112 := fun e => hI109.t1 (e ▸ hI109.g1.inF)
   refine ye <| x_region <| yp 4 [] .z <| yo (yS hI109.blk fun w115 hB116 hc117 => ?_)
   have hS119 := Ch.trans (Ch.refl (fun j => j = t) w110) hc117 (fun i hi (h : i = t) => h)
   refine yE (nB (yR0' ?_))
   have hI122 := hI109.scalar (T' := ({ T112 with cursor := (Cur.mk T112.cursor.x T112.cursor.y false T112.cursor.sty) } : TS)) hS119 (Blk.to hB116 (by kernel_rfl)) rfl rfl rfl rfl
   have hX123 := Ch.on hX108 hS119 hFt
   have hA124 := hI122.pk2 hS119 hI hX123
   subst hE112
   refine ⟨rfl, TermAt.eq' hA124 ?_, hX123⟩
   simp only [execT, tabT, lateT, hpp0, hpp1, hpp2, hpp3, hpp4, ↓reduceIte, Int.reduceEq, Int.reduceLT, Int.reduceLE, Bool.and_true, Bool.true_and, Bool.and_false, Bool.false_and, Bool.false_eq_true, Bool.true_eq_false, and_true, true_and, and_false, false_and, or_true, true_or, or_false, false_or]
  exfalso; omega
 have hpp3 := hC101
 refine x_region <| yp 2 [] .z <| ye <| yc (rE c 12) (fun hC125 => ?_) fun hC125 => ?_
 ·have hpp4 := hC125
  refine ysr <| yp 1 [] .z ?_
  have hX126 := hI.cht (Ch.refl (fun j => j = t) w)
  have hA127 := hI.pk1 hI hX126
  refine yo (yQ (down_lim hA127 hT hL  ) ?_)
  rintro w133 ⟨hB128, hc129⟩
  obtain ⟨hN130, hX131⟩ := TermAt.next hA0 hX126 hc129 hB128
  have hL135 : Lim W H (downT T) := (lim_down hL)
  generalize hE135 : (downT T) = T135 at hN130 hL135
  have hM135 := hL135
  have hla135 := hM135.all
  obtain ⟨g135, o135, ba135, bn135, bc135, pa135, pn135, pc135, F1135, F2135, FB135, FP135, hI132⟩ := hN130
  obtain ⟨gv135, hgd136⟩ := hI132.g1.head
  have htg137 : Df t g135 := fun e => hI132.t1 (e ▸ hI132.g1.inF)
  refine ye <| x_region <| yp 4 [] .z <| yo (yS hI132.blk fun w138 hB139 hc140 => ?_)
  have hS142 := Ch.trans (Ch.refl (fun j => j = t) w133) hc140 (fun i hi (h : i = t) => h)
  refine yE (nB (yR0' ?_))
  have hI145 := hI132.scalar (T' := ({ T135 with cursor := (Cur.mk T135.cursor.x T135.cursor.y false T135.cursor.sty) } : TS)) hS142 (Blk.to hB139 (by kernel_rfl)) rfl rfl rfl rfl
  have hX146 := Ch.on hX131 hS142 hFt
  have hA147 := hI145.pk2 hS142 hI hX146
  subst hE135
  refine ⟨rfl, TermAt.eq' hA147 ?_, hX146⟩
  simp only [execT, tabT, lateT, hpp0, hpp1, hpp2, hpp3, hpp4, ↓reduceIte, Int.reduceEq, Int.reduceLT, Int.reduceLE, Bool.and_true, Bool.true_and, Bool.and_false, Bool.false_and, Bool.false_eq_true, Bool.true_eq_false, and_true, true_and, and_false, false_and, or_true, true_or, or_false, false_or]
 have hpp4 := hC125
 refine ysr <| yp 2 [] .z <| ye <| yc (rE c 13) (fun hC148 => ?_) fun hC148 => ?_
 ·have hpp5 := hC148
  refine x_region <| yp 6 [] (.l (hI.blk.c 3) .z) ?_
  have hX149 := hI.cht (Ch.refl (fun j => j = t) w)
  have hA150 := hI.pk1 hI hX149
  refine yo (yQ (move_lim hA150 hT hL  (0) (T.cursor.y)) ?_)
  rintro w156 ⟨hB151, hc152⟩
  obtain ⟨hN153, hX154⟩ := TermAt.next hA0 hX149 hc152 hB151
  have hL158 : Lim W H (moveT T (0) (T.cursor.y)) := (lim_move hL (0) (T.cursor.y))
  generalize hE158 : (moveT T (0) (T.cursor.y)) = T158 at hN153 hL158
  have hM158 := hL158
  have hla158 := hM158.all
  obtain ⟨g158, o158, ba158, bn158, bc158, pa158, pn158, pc158, F1158, F2158, FB158, FP158, hI155⟩ := hN153
  obtain ⟨gv158, hgd159⟩ := hI155.g1.head
  have htg160 : Df t g158 := fun e => hI155.t1 (e ▸ hI155.g1.inF)
  refine yE (nB (yR0' ?_))
  have hX161 := Ch.on hX154 (Ch.refl (fun j => j = t) w156) hFt
  have hA162 := hI155.pk2 (Ch.refl (fun j => j = t) w156) hI hX161
  subst hE158
  refine ⟨rfl, TermAt.eq' hA162 ?_, hX161⟩
  simp only [execT, tabT, lateT, hpp0, hpp1, hpp2, hpp3, hpp4, hpp5, ↓reduceIte, Int.reduceEq, Int.reduceLT, Int.reduceLE, Bool.and_true, Bool.true_and, Bool.and_false, Bool.false_and, Bool.false_eq_true, Bool.true_eq_false, and_true, true_and, and_false, false_and, or_true, true_or, or_false, false_or]
 have hpp5 := hC148
 refine ys <| ysr <| yp 2 [] .z <| ye <| yc (rE c 14) (fun hC163 => ?_) fun hC163 => ?_
 ·have hpp6 := hC163
  refine yk <| yc (rE c 14) (fun hC164 => ?_) fun hC164 => ?_
  ·have hpp7 := hC164
   refine x_region <| yp 5 [] .z <| yo (yS hI.blk fun w165 hB166 hc167 => ?_)
   have hS169 := Ch.trans (Ch.refl (fun j => j = t) w) hc167 (fun i hi (h : i = t) => h)
   refine yE (nB (yR0' ?_))
   have hI172 := hI.scalar (T' := ({ T with shift := ((c : Int) == 14) } : TS)) hS169 (Blk.to hB166 (by kernel_rfl)) rfl rfl rfl rfl
   have hX173 := hI.cht hS169
   have hA174 := hI172.pk1 hI hX173
   refine ⟨rfl, TermAt.eq' hA174 ?_, hX173⟩
   simp only [execT, tabT, lateT, hpp0, hpp1, hpp2, hpp3, hpp4, hpp5, hpp6, hpp7, ↓reduceIte, Int.reduceEq, Int.reduceLT, Int.reduceLE, Bool.and_true, Bool.true_and, Bool.and_false, Bool.false_and, Bool.false_eq_true, Bool.true_eq_false, and_true, true_and, and_false, false_and, or_true, true_or, or_false, false_or]
  exfalso; omega
 have hpp6 := hC163
 refine x_region <| yp 2 [] .z <| ye <| yc (rE c 15) (fun hC175 => ?_) fun hC175 => ?_
 ·have hpp7 := hC175
  refine x_region <| yp 5 [] .z <| yo (yS hI.blk fun w176 hB177 hc178 => ?_)
  have hS180 := Ch.trans (Ch.refl (fun j => j = t) w) hc178 (fun i hi (h : i = t) => h)
  refine yE (nB (yR0' ?_))
  have hI183 := hI.scalar (T' := ({ T with shift := ((c : Int) == 14) } : TS)) hS180 (Blk.to hB177 (by kernel_rfl)) rfl rfl rfl rfl
  have hX184 := hI.cht hS180
  have hA185 := hI183.pk1 hI hX184
  refine ⟨rfl, TermAt.eq' hA185 ?_, hX184⟩
  simp only [execT, tabT, lateT, hpp0, hpp1, hpp2, hpp3, hpp4, hpp5, hpp6, hpp7, ↓reduceIte, Int.reduceEq, Int.reduceLT, Int.reduceLE, Bool.and_true, Bool.true_and, Bool.and_false, Bool.false_and, Bool.false_eq_true, Bool.true_eq_false, and_true, true_and, and_false, false_and, or_true, true_or, or_false, false_or]
 have hpp7 := hC175
 refine x_skip (nB (yR0' ?_))
 have hX186 := hI.cht (Ch.refl (fun j => j = t) w)
 have hA187 := hI.pk1 hI hX186
 refine ⟨rfl, TermAt.eq' hA187 ?_, hX186⟩
 simp only [execT, tabT, lateT, hpp0, hpp1, hpp2, hpp3, hpp4, hpp5, hpp6, hpp7, ↓reduceIte, Int.reduceEq, Int.reduceLT, Int.reduceLE, Bool.and_true, Bool.true_and, Bool.and_false, Bool.false_and, Bool.false_eq_true, Bool.true_eq_false, and_true, true_and, and_false, false_and, or_true, true_or, or_false, false_or]
end Go.Proofs.YteoejhjfbfacdaaGreatDoor.X
namespace Go.Proofs.YteoejhjfbfacdaaGreatDoor.X
open Go Go.RowKit Go.Proofs.YteoejhjfbfacdaaGreatDoor
structure Ac where
 kind : Int
 rune : Int
 last : Int
 marks : ByteArray
 params : List Int
 text : ByteArray
abbrev tAct : TypeId := 78
def Ac.vals (a : Ac) (ps : Value) : List Value := [.int .i64 a.kind, .int .i32 a.rune, .int .u8 a.last, .string a.marks, ps, .string a.text]
def PS.vals (p : PS) (ps : Value) : List Value := [.int .i64 p.state, .int .u8 p.utf.b0, .int .u8 p.utf.b1, .int .u8 p.utf.b2, .int .i64 p.utf.n, .string p.marks, ps, .string p.text, .int .i64 p.within]
def atP (s : Int) : PS := ⟨s, ⟨0, 0, 0, 0⟩, ByteArray.empty, [], ByteArray.empty, 0⟩
def acP (r : Int) : Ac := ⟨0, r, 0, ByteArray.empty, [], ByteArray.empty⟩
def acX (c : Int) : Ac := ⟨1, 0, c, ByteArray.empty, [], ByteArray.empty⟩
def IntsAt (w : World) (k : IntKind) (o : Option Nat) (n c : Nat) (l : List Int) (K : Nat → Prop) : Prop :=
 Rd w (o.map at0) (l.map (Value.int k)) ∧ l.length = n ∧ (o = none → c = 0) ∧ ∀ b, o = some b → K b ∧ b < w.heap.size
theorem IntsAt.ch {w w' : World} {k : IntKind} {o : Option Nat} {n c : Nat} {l : List Int} {K B : Nat → Prop} (h : IntsAt w k o n c l K) (hc : Ch B w w') (hB : ∀ b, K b → ¬ B b) : IntsAt w' k o n c l K :=
 ⟨h.1.ch hc fun ad e => by
  cases o with
  | none => cases e
  | some b => cases e; exact hB b (h.2.2.2 b rfl).1, h.2.1, h.2.2.1, fun b e => ⟨(h.2.2.2 b e).1, Nat.lt_of_lt_of_le (h.2.2.2 b e).2 hc.size⟩⟩
theorem IntsAt.mono {w : World} {k : IntKind} {o : Option Nat} {n c : Nat} {l : List Int} {K K' : Nat → Prop} (h : IntsAt w k o n c l K) (hK : ∀ b, K b → K' b) : IntsAt w k o n c l K' :=
 ⟨h.1, h.2.1, h.2.2.1, fun b e => ⟨hK b (h.2.2.2 b e).1, (h.2.2.2 b e).2⟩⟩
theorem IntsAt.nil (w : World) (k : IntKind) (K : Nat → Prop) : IntsAt w k none 0 0 [] K := ⟨Rd.nil _ _, rfl, fun _ => rfl, fun _ e => by cases e⟩
def ActV (w : World) (vs : List Value) (a : Ac) (K : Nat → Prop) : Prop := ∃ o n c, vs = a.vals (.slice (o.map at0) n c) ∧ IntsAt w .i64 o n c a.params K
structure ActsAt (w : World) (o : Option Nat) (n c : Nat) (l : List Ac) (K : Nat → Prop) : Prop where
 ex : ∃ vss : List (List Value), Own w tAct 6 o n c vss.flatten ∧ vss.length = l.length ∧ ∀ i (h : i < l.length) (h' : i < vss.length), ActV w vss[i] l[i] K
 len : l.length = n
 oK : ∀ b, o = some b → K b
theorem ActV.ch {w w' : World} {vs : List Value} {a : Ac} {K B : Nat → Prop} (h : ActV w vs a K) (hc : Ch B w w') (hB : ∀ b, K b → ¬ B b) : ActV w' vs a K := by
 obtain ⟨o, n, c, e, h⟩ := h
 exact ⟨o, n, c, e, h.ch hc hB⟩
theorem ActV.mono {w : World} {vs : List Value} {a : Ac} {K K' : Nat → Prop} (h : ActV w vs a K) (hK : ∀ b, K b → K' b) : ActV w vs a K' := by
 obtain ⟨o, n, c, e, h⟩ := h
 exact ⟨o, n, c, e, h.mono hK⟩
theorem ActV.len {w : World} {vs : List Value} {a : Ac} {K : Nat → Prop} (h : ActV w vs a K) : vs.length = 6 := by
 obtain ⟨o, n, c, rfl, h⟩ := h; rfl
theorem ActsAt.ch {w w' : World} {o : Option Nat} {n c : Nat} {l : List Ac} {K B : Nat → Prop} (h : ActsAt w o n c l K) (hc : Ch B w w') (hB : ∀ b, K b → ¬ B b) : ActsAt w' o n c l K := by
 obtain ⟨vss, h1, h2, h3⟩ := h.ex
 exact ⟨⟨vss, h1.ch hc fun g e => hB g (h.oK g e), h2, fun i hi hi' => (h3 i hi hi').ch hc hB⟩, h.len, h.oK⟩
theorem ActsAt.mono {w : World} {o : Option Nat} {n c : Nat} {l : List Ac} {K K' : Nat → Prop} (h : ActsAt w o n c l K) (hK : ∀ b, K b → K' b) : ActsAt w o n c l K' := by
 obtain ⟨vss, h1, h2, h3⟩ := h.ex
 exact ⟨⟨vss, h1, h2, fun i hi hi' => (h3 i hi hi').mono hK⟩, h.len, fun b e => hK b (h.oK b e)⟩
theorem ActsAt.nil (w : World) (K : Nat → Prop) : ActsAt w none 0 0 [] K := ⟨⟨[], Own.nil _ _ _, rfl, fun i h => by simp at h⟩, rfl, fun b e => by cases e⟩
theorem flatten_at {vss : List (List Value)} (h : ∀ v ∈ vss, v.length = 6) {i : Nat} (hi : i < vss.length) {k : Nat} (hk : k < 6) : vss.flatten[i * 6 + k]? = vss[i][k]? := by
 induction vss generalizing i with
 | nil => simp at hi
 | cons v vss ih =>
  have hv := h v (List.mem_cons_self ..)
  cases i with
  | zero => simp [List.getElem?_append_left, hv, hk]
  | succ i =>
   rw [List.flatten_cons, List.getElem?_append_right (by omega), hv, show (i + 1) * 6 + k - 6 = i * 6 + k by omega]
   exact ih (fun x hx => h x (List.mem_cons_of_mem _ hx)) (by simpa using hi)
end Go.Proofs.YteoejhjfbfacdaaGreatDoor.X
namespace Go.Proofs.YteoejhjfbfacdaaGreatDoor.X
open Go Go.RowKit Go.Proofs.YteoejhjfbfacdaaGreatDoor
abbrev tInt : TypeId := 3
abbrev tRune : TypeId := 21
theorem ints_one (l : List Int) {k : IntKind} : ((l.map (Value.int k)).all fun c => c.oneCell') = true := by
 refine List.all_eq_true.2 fun v hv => ?_
 obtain ⟨x, _, rfl⟩ := List.mem_map.1 hv
 rfl
theorem bytesOf_one (c : Int) : (bytesOf [c]).size = 1 := rfl
theorem IntsAt.old {w : World} {k : IntKind} {o : Option Nat} {n c : Nat} {l : List Int} {K : Nat → Prop} {w0 w1 : World} (h : IntsAt w k o n c l K) : IntsAt w k o n c l (fun b => o = some b ∨ (w0.heap.size ≤ b ∧ b < w1.heap.size)) :=
 ⟨h.1, h.2.1, h.2.2.1, fun b e => ⟨.inl e, (h.2.2.2 b e).2⟩⟩
theorem ints_own' {w w0 : World} {k : IntKind} {e : TypeId} {o : Option Nat} {n c : Nat} {l : List Int} (h : Own w e 1 o n c (l.map (Value.int k))) (hlo : ∀ b, o = some b → w0.heap.size ≤ b) : IntsAt w k o n c l (fun b => w0.heap.size ≤ b ∧ b < w.heap.size) := by
 refine ⟨h.rd, by have := h.1; rw [List.length_map] at this; omega, fun e => (h.2.2.2.1 e).2, fun b e => ?_⟩
 subst e
 exact ⟨⟨hlo b rfl, h.lt⟩, h.lt⟩
theorem ints_own {w : World} {k : IntKind} {e : TypeId} {b n c : Nat} {l : List Int} {K : Nat → Prop} (h : Own w e 1 (some b) n c (l.map (Value.int k))) (hK : K b) : IntsAt w k (some b) n c l K :=
 ⟨h.rd, by have := h.1; rw [List.length_map] at this; omega, (fun e => by cases e), fun b e => by cases e; exact ⟨hK, h.lt⟩⟩
theorem IntsAt.or {w : World} {k : IntKind} {o : Option Nat} {n c : Nat} {l : List Int} {K A : Nat → Prop} (h : IntsAt w k o n c l K) : IntsAt w k o n c l (fun b => A b ∨ K b) := h.mono fun _ h => .inr h
theorem ActsAt.one {w : World} {b : Nat} {K : Nat → Prop} {a : Ac} {ps : Value} (h : Blk w b (a.vals ps) tAct) (hb : K b) (hp : ∃ o n c, ps = .slice (o.map at0) n c ∧ IntsAt w .i64 o n c a.params K) : ActsAt w (some b) 1 1 [a] K := by
 obtain ⟨o, n, c, rfl, hp⟩ := hp
 refine ⟨⟨[a.vals (.slice (o.map at0) n c)], ?_, rfl, fun i hi hi' => ?_⟩, rfl, fun b' e => by cases e; exact hb⟩
 ·simp only [List.flatten_cons, List.flatten_nil, List.append_nil]
  exact Own.blk h rfl (by decide)
 ·obtain rfl : i = 0 := by simpa using hi
  exact ⟨o, n, c, rfl, hp⟩
def Fed (w w' : World) (e : Ending) (po : Option Nat) (p' : PS) (l : List Ac) : Prop :=
 ∃ po' pn' pc' o n c, e = .returned (.tuple #[.agg (p'.vals (.slice (po'.map at0) pn' pc')).toArray, .slice (o.map at0) n c]) ∧
  IntsAt w' .i64 po' pn' pc' p'.params (fun b => po = some b ∨ (w.heap.size ≤ b ∧ b < w'.heap.size)) ∧ ActsAt w' o n c l (fun b => (w.heap.size ≤ b ∧ b < w'.heap.size) ∧ po' ≠ some b) ∧ Ch (fun _ => False) w w'
theorem Fed.mk2 {w w' : World} {e : Ending} {po : Option Nat} {p' q : PS} {l m : List Ac} (po' : Option Nat) (pn' pc' : Nat) (o : Option Nat) (n c : Nat) (he : e = .returned (.tuple #[.agg (p'.vals (.slice (po'.map at0) pn' pc')).toArray, .slice (o.map at0) n c]))
  (hp : IntsAt w' .i64 po' pn' pc' p'.params (fun b => po = some b ∨ (w.heap.size ≤ b ∧ b < w'.heap.size))) (ha : ActsAt w' o n c l (fun b => (w.heap.size ≤ b ∧ b < w'.heap.size) ∧ po' ≠ some b)) (hc : Ch (fun _ => False) w w') (hq : q = p' ∧ m = l) : Fed w w' e po q m := by
 obtain ⟨rfl, rfl⟩ := hq
 exact ⟨po', pn', pc', o, n, c, he, hp, ha, hc⟩
theorem Fed.mk' {w w' : World} {e : Ending} {po : Option Nat} {p' q : PS} {l m : List Ac} (po' : Option Nat) (pn' pc' : Nat) (o : Option Nat) (n c : Nat) (hx : (o = none ∧ n = 0 ∧ c = 0 ∧ l = []) ∨ ∀ b, po' = some b → b < w.heap.size) (he : e = .returned (.tuple #[.agg (p'.vals (.slice (po'.map at0) pn' pc')).toArray, .slice (o.map at0) n c]))
  (hp : IntsAt w' .i64 po' pn' pc' p'.params (fun b => po = some b ∨ (w.heap.size ≤ b ∧ b < w'.heap.size))) (ha : ActsAt w' o n c l (fun b => w.heap.size ≤ b ∧ b < w'.heap.size)) (hc : Ch (fun _ => False) w w') (hq : q = p' ∧ m = l) : Fed w w' e po q m := by
 refine Fed.mk2 po' pn' pc' o n c he hp ?_ hc hq
 rcases hx with ⟨rfl, rfl, rfl, rfl⟩ | hx
 ·exact ActsAt.nil _ _
 ·exact ha.mono fun b hb => ⟨hb, fun e => by have := hx b e; omega⟩
def someL (l : List Int) : List Int := if l.length = 0 then [0] else l
theorem someL_len (l : List Int) : 1 ≤ (someL l).length ∧ (someL l).length ≤ max l.length 1 := by
 unfold someL
 split
 ·simp; omega
 ·omega
def lastI (l : List Int) : Int := l.getD (l.length - 1) 0
def setLast (l : List Int) (x : Int) : List Int := l.set (l.length - 1) x
theorem getD_bd {l : List Int} {a b : Int} (h : ∀ x ∈ l, a ≤ x ∧ x ≤ b) (h0 : a ≤ 0 ∧ 0 ≤ b) (i : Nat) : a ≤ l.getD i 0 ∧ l.getD i 0 ≤ b := by
 rw [List.getD]
 by_cases hi : i < l.length
 ·rw [List.getElem?_eq_getElem hi]; exact h _ (List.getElem_mem _)
 ·rw [List.getElem?_eq_none (by omega)]; exact h0
theorem lastI_bd {l : List Int} (h : ∀ x ∈ l, 0 ≤ x ∧ x ≤ 9999) : 0 ≤ lastI (someL l) ∧ lastI (someL l) ≤ 9999 := by
 refine getD_bd (a := 0) (b := 9999) (fun x hx => ?_) (by decide) _
 unfold someL at hx
 split at hx
 ·simp at hx; omega
 ·exact h x hx
theorem ints_last {w : World} {b n c : Nat} {l : List Int} {i : Int} (h : Own w tInt 1 (some b) n c (l.map (Value.int .i64))) (hi : i = (n : Int) - 1 ∧ 1 ≤ n) : w.cell? ⟨b, 0 + i.toNat * 1, none⟩ = some (.int .i64 (lastI l)) := by
 have hl : l.length = n := by have := h.1; rw [List.length_map] at this; omega
 refine rd_at h.rd _ _ ?_
 rw [List.getElem?_map, Nat.mul_one, show i.toNat = l.length - 1 by omega, List.getElem?_eq_getElem (by omega)]
 simp [lastI, List.getD, List.getElem?_eq_getElem (show l.length - 1 < l.length by omega)]
theorem ints_setlast {w w' : World} {b n c : Nat} {l : List Int} {r : List Value} {i x : Int} (h : Own w tInt 1 (some b) n c (l.map (Value.int .i64))) (hr : r.length = (c - n) * 1) (hi : i = (n : Int) - 1 ∧ 1 ≤ n)
  (hb : Blk w' b (put (l.map (Value.int .i64) ++ r) (0 + i.toNat * 1) [.int .i64 x]) tInt) : Own w' tInt 1 (some b) n c ((setLast l x).map (Value.int .i64)) := by
 have hl : l.length = n := by have := h.1; rw [List.length_map] at this; omega
 rw [show i.toNat = n - 1 by omega] at hb
 have := own_set (v := .int .i64 x) h hr (by omega) hb
 unfold setLast
 rw [List.map_set, hl]
 exact this
def finishP (p : PS) (s : Int) : PS × List Ac := (atP 0, [⟨if s = 6 then 5 else 4, 0, 0, ByteArray.empty, [], p.text⟩])
def escapeP (p : PS) (c : Int) : PS × List Ac :=
 if c < 48 then (if (p.marks.size : Int) < 2 then { p with marks := p.marks ++ bytesOf [c], state := 2 } else { p with state := 2 }, [])
 else if p.state = 1 ∧ c = 91 then (atP 3, [])
 else if p.state = 1 ∧ c = 93 then (atP 5, [])
 else if p.state = 1 ∧ c = 80 then (atP 6, [])
 else (atP 0, [⟨2, 0, c, p.marks, [], ByteArray.empty⟩])
def stringP (p : PS) (c : Int) : PS × List Ac :=
 if c = 27 then ({ p with within := p.state, state := 7 }, [])
 else if c = 7 ∧ p.state = 5 then finishP p 5
 else if c = 24 ∨ c = 26 then (atP 0, [])
 else if 32 ≤ c ∧ (p.text.size : Int) < 40 then ({ p with text := p.text ++ bytesOf [c] }, [])
 else (p, [])
def csiP (p : PS) (c : Int) : PS × List Ac :=
 if 48 ≤ c ∧ c ≤ 57 then ({ p with params := setLast (someL p.params) (min (10 * lastI (someL p.params) + (c - 48)) 9999) }, [])
 else if c = 59 then (if ((someL p.params).length : Int) < 8 then { p with params := someL p.params ++ [0] } else { p with params := someL p.params }, [])
 else if 64 ≤ c then (if p.state = 4 then (atP 0, []) else (atP 0, [⟨3, 0, c, p.marks, p.params, ByteArray.empty⟩]))
 else if (p.marks.size : Int) = 2 ∨ c = 58 then ({ p with state := 4 }, [])
 else ({ p with marks := p.marks ++ bytesOf [c] }, [])
end Go.Proofs.YteoejhjfbfacdaaGreatDoor.X
namespace Go.Proofs.YteoejhjfbfacdaaGreatDoor.X
open Go Go.RowKit Go.Proofs.YteoejhjfbfacdaaGreatDoor
set_option maxHeartbeats 4000000 in
theorem pat_any (s : Int) (w : World) : Calls Tryz.prog 46 [iX s].toArray w fun e w' => e = .returned (.agg ((atP s).vals (.slice none 0 0)).toArray) ∧ Ch (fun _ => False) w w' := by
 refine yA Tryz.func46 rfl <| ysr <| yo (yN [iX 0, uX 0, uX 0, uX 0, iX 0, .string ByteArray.empty, .slice none 0 0, .string ByteArray.empty, iX 0] 54 fun w10 b11 hb12 hz13 hB14 hc15 => ?_)
 have hlo16 : w.heap.size ≤ b11 := by rw [hb12]; exact Ch.size (Up.refl w.heap.size w)
 have hu17 := Up.step (Up.refl w.heap.size w) hc15 iZ
 refine ye <| ysr <| yp 2 [] .z <| yo (yS hB14 fun w18 hB19 hc20 => ?_)
 have hu21 := Up.step hu17 hc20 (fun i hi (h : i = b11) => by omega)
 replace hB19 : Blk w18 b11 [iX s, uX 0, uX 0, uX 0, iX 0, .string ByteArray.empty, .slice none 0 0, .string ByteArray.empty, iX 0] _ := Blk.to hB19 (by kernel_rfl)
 refine ye <| x_ret (yR1c (.agg #[iX s, uX 0, uX 0, uX 0, iX 0, .string ByteArray.empty, .slice none 0 0, .string ByteArray.empty, iX 0]) (.a (hB19.cs 0 9) .z) ?_)
 exact ⟨rfl, Up.ch hu21⟩
set_option maxHeartbeats 4000000 in
theorem finish_any {w : World} {po : Option Nat} {pn pc : Nat} {p : PS} (hP : IntsAt w .i64 po pn pc p.params (fun b => po = some b)) (s : Int) : Calls Tryz.prog 45 [.agg #[iX p.state, uX p.utf.b0, uX p.utf.b1, uX p.utf.b2, iX p.utf.n, .string p.marks, .slice (po.map at0) pn pc, .string p.text, iX p.within], iX s].toArray w fun e w' => Fed w w' e po (finishP p s).1 (finishP p s).2 := by
 refine yA Tryz.func45 rfl <| ysr <| yo (yN [iX p.state, uX p.utf.b0, uX p.utf.b1, uX p.utf.b2, iX p.utf.n, .string p.marks, .slice (po.map at0) pn pc, .string p.text, iX p.within] 54 fun w10 b11 hb12 hz13 hB14 hc15 => ?_)
 have hlo16 : w.heap.size ≤ b11 := by rw [hb12]; exact Ch.size (Up.refl w.heap.size w)
 have hu17 := Up.step (Up.refl w.heap.size w) hc15 iZ
 refine yo (yN [iX 0, uX 0, uX 0, uX 0, iX 0, .string ByteArray.empty, .slice none 0 0, .string ByteArray.empty, iX 0] 54 fun w19 b20 hb21 hz22 hB23 hc24 => ?_)
 have hlo25 : w.heap.size ≤ b20 := by rw [hb21]; exact Ch.size hu17
 have hu26 := Up.step hu17 hc24 iZ
 have hB28 := hB14.ch hc24 id
 refine yp 3 [] .z <| ye <| ysr <| yp 1 [] .z <| ye <| ys <| ysr <| yp 2 [] .z <| ye <| yc (rE s 6) (fun hC29 => ?_) fun hC29 => ?_
 ·have hpp0 := hC29
  refine x_region <| yp 1 [] .z <| ye <| ys <| x_drawnB (fun k => k = b20) [5] (by kernel_rfl) (fun w30 hH31 hc32 => ?_)
  have hu33 := Up.step hu26 hc32 iZ
  have hB35 := hB28.ch hc32 id
  have hB36 := hB23.ch hc32 id
  refine ydC (uL 1 4) [] (fun u hu => (.l (cell_ch hu (hB35.c 7) (fun (h : b11 = b20) => by have := hB14.lt; omega)) .z)) <| x_dtwo 0 5 (by kernel_rfl) (by decide) ?_ ?_
  ·refine x_seff 0 _ (by kernel_rfl) rfl (yQ (pat_any 0 _) fun w38 hc37 => ?_)
   have hu39 := Up.step hu33 hc37 iZ
   have hB42 := hB36.ch hc37 id
   refine x_heldB hc37 eZ <| x_dtwo 5 6 (by kernel_rfl) (by decide) ?_ ?_
   ·refine x_skill 5 _ (by kernel_rfl) rfl (yB [iX 5, rX 0, uX 0, .string ByteArray.empty, .slice none 0 0, .string p.text] 78 1 fun w43 b44 hb45 hz46 hB47 hc48 => ?_)
    have hlo49 : w.heap.size ≤ b44 := by rw [hb45]; exact Ch.size hu39
    have hu50 := Up.step hu39 hc48 iZ
    have hB53 := hB42.ch hc48 id
    refine x_killedB (B := fun k => k = b20) <| yH 6 (yS hB53 fun w54 hB55 hc56 => ?_)
    have hu57 := Up.step hu50 hc56 (fun i hi (h : i = b20) => by omega)
    have hB60 := hB47.ch hc56 (fun (h : b44 = b20) => by have := hB42.lt; omega)
    replace hB55 : Blk w54 b20 [iX 0, uX 0, uX 0, uX 0, iX 0, .string ByteArray.empty, .slice none 0 0, .string ByteArray.empty, iX 0] _ := Blk.to hB55 (by kernel_rfl)
    refine x_heldB hc56 iZ <| ydC [7] [] (fun u hu => .z) <| yDe (nS ?_)
    refine x_ret (yR2 [.agg #[iX 0, uX 0, uX 0, uX 0, iX 0, .string ByteArray.empty, .slice none 0 0, .string ByteArray.empty, iX 0], .slice (some ⟨b44, 0, none⟩) 1 1] (.a (hB55.cs 0 9) .z) ?_)
    refine Fed.mk' (p' := (PS.mk 0 ⟨0, 0, 0, 0⟩ ByteArray.empty [] ByteArray.empty 0)) (l := [Ac.mk 5 0 0 ByteArray.empty [] p.text]) none 0 0 (some b44) 1 1 (.inr (fun b h => by cases h)) rfl (IntsAt.nil _ _ _) (ActsAt.one hB60 ⟨by have := Ch.size hu57; omega, hB60.lt⟩ ⟨none, 0, 0, rfl, IntsAt.nil _ _ _⟩) (Up.ch hu57) ?_
    simp only [finishP, atP, hpp0, ↓reduceIte, Int.reduceEq, Int.reduceLE, Int.reduceLT, reduceCtorEq, and_true, and_self, true_and, or_true, true_or, or_false, false_or, and_false, false_and, ne_eq, not_true, not_false_iff]
   refine x_seff 6 _ (by kernel_rfl) rfl (yS hB42 fun w61 hB62 hc63 => ?_)
   have hu64 := Up.step hu39 hc63 (fun i hi (h : i = b20) => by omega)
   replace hB62 : Blk w61 b20 [iX 0, uX 0, uX 0, uX 0, iX 0, .string ByteArray.empty, .slice none 0 0, .string ByteArray.empty, iX 0] _ := Blk.to hB62 (by kernel_rfl)
   refine x_heldB hc63 iZ <| yK 5 (yB [iX 5, rX 0, uX 0, .string ByteArray.empty, .slice none 0 0, .string p.text] 78 1 fun w67 b68 hb69 hz70 hB71 hc72 => ?_)
   have hlo73 : w.heap.size ≤ b68 := by rw [hb69]; exact Ch.size hu64
   have hu74 := Up.step hu64 hc72 iZ
   have hB77 := hB62.ch hc72 id
   refine x_killed <| yd [7] [] .z <| yDe (nS ?_)
   refine x_ret (yR2 [.agg #[iX 0, uX 0, uX 0, uX 0, iX 0, .string ByteArray.empty, .slice none 0 0, .string ByteArray.empty, iX 0], .slice (some ⟨b68, 0, none⟩) 1 1] (.a (hB77.cs 0 9) .z) ?_)
   refine Fed.mk' (p' := (PS.mk 0 ⟨0, 0, 0, 0⟩ ByteArray.empty [] ByteArray.empty 0)) (l := [Ac.mk 5 0 0 ByteArray.empty [] p.text]) none 0 0 (some b68) 1 1 (.inr (fun b h => by cases h)) rfl (IntsAt.nil _ _ _) (ActsAt.one hB71 ⟨by have := Ch.size hu74; omega, hB71.lt⟩ ⟨none, 0, 0, rfl, IntsAt.nil _ _ _⟩) (Up.ch hu74) ?_
   simp only [finishP, atP, hpp0, ↓reduceIte, Int.reduceEq, Int.reduceLE, Int.reduceLT, reduceCtorEq, and_true, and_self, true_and, or_true, true_or, or_false, false_or, and_false, false_and, ne_eq, not_true, not_false_iff]
  refine x_skill 5 _ (by kernel_rfl) rfl (yB [iX 5, rX 0, uX 0, .string ByteArray.empty, .slice none 0 0, .string p.text] 78 1 fun w78 b79 hb80 hz81 hB82 hc83 => ?_)
  have hlo84 : w.heap.size ≤ b79 := by rw [hb80]; exact Ch.size hu33
  have hu85 := Up.step hu33 hc83 iZ
  have hB88 := hB36.ch hc83 id
  refine x_killedB (B := fun k => k = b20) <| yH 0 (yQ (pat_any 0 _) fun w90 hc89 => ?_)
  have hu91 := Up.step hu85 hc89 iZ
  have hB94 := hB88.ch hc89 id
  have hB95 := hB82.ch hc89 id
  refine x_heldB hc89 eZ <| yH 6 (yS hB94 fun w96 hB97 hc98 => ?_)
  have hu99 := Up.step hu91 hc98 (fun i hi (h : i = b20) => by omega)
  have hB102 := hB95.ch hc98 (fun (h : b79 = b20) => by have := hB36.lt; omega)
  replace hB97 : Blk w96 b20 [iX 0, uX 0, uX 0, uX 0, iX 0, .string ByteArray.empty, .slice none 0 0, .string ByteArray.empty, iX 0] _ := Blk.to hB97 (by kernel_rfl)
  refine x_heldB hc98 iZ <| ydC [7] [] (fun u hu => .z) <| yDe (nS ?_)
  refine x_ret (yR2 [.agg #[iX 0, uX 0, uX 0, uX 0, iX 0, .string ByteArray.empty, .slice none 0 0, .string ByteArray.empty, iX 0], .slice (some ⟨b79, 0, none⟩) 1 1] (.a (hB97.cs 0 9) .z) ?_)
  refine Fed.mk' (p' := (PS.mk 0 ⟨0, 0, 0, 0⟩ ByteArray.empty [] ByteArray.empty 0)) (l := [Ac.mk 5 0 0 ByteArray.empty [] p.text]) none 0 0 (some b79) 1 1 (.inr (fun b h => by cases h)) rfl (IntsAt.nil _ _ _) (ActsAt.one hB102 ⟨by have := Ch.size hu99; omega, hB102.lt⟩ ⟨none, 0, 0, rfl, IntsAt.nil _ _ _⟩) (Up.ch hu99) ?_
  simp only [finishP, atP, hpp0, ↓reduceIte, Int.reduceEq, Int.reduceLE, Int.reduceLT, reduceCtorEq, and_true, and_self, true_and, or_true, true_or, or_false, false_or, and_false, false_and, ne_eq, not_true, not_false_iff]
 have hpp0 := hC29
 refine yk <| ys <| x_drawnB (fun k => k = b20) [5] (by kernel_rfl) (fun w103 hH104 hc105 => ?_)
 have hu106 := Up.step hu26 hc105 iZ
 have hB108 := hB28.ch hc105 id
 have hB109 := hB23.ch hc105 id
 refine ydC (uL 1 4) [] (fun u hu => (.l (cell_ch hu (hB108.c 7) (fun (h : b11 = b20) => by have := hB14.lt; omega)) .z)) <| x_dtwo 0 5 (by kernel_rfl) (by decide) ?_ ?_
 ·refine x_seff 0 _ (by kernel_rfl) rfl (yQ (pat_any 0 _) fun w111 hc110 => ?_)
  have hu112 := Up.step hu106 hc110 iZ
  have hB115 := hB109.ch hc110 id
  refine x_heldB hc110 eZ <| x_dtwo 5 6 (by kernel_rfl) (by decide) ?_ ?_
  ·refine x_skill 5 _ (by kernel_rfl) rfl (yB [iX 4, rX 0, uX 0, .string ByteArray.empty, .slice none 0 0, .string p.text] 78 1 fun w116 b117 hb118 hz119 hB120 hc121 => ?_)
   have hlo122 : w.heap.size ≤ b117 := by rw [hb118]; exact Ch.size hu112
   have hu123 := Up.step hu112 hc121 iZ
   have hB126 := hB115.ch hc121 id
   refine x_killedB (B := fun k => k = b20) <| yH 6 (yS hB126 fun w127 hB128 hc129 => ?_)
   have hu130 := Up.step hu123 hc129 (fun i hi (h : i = b20) => by omega)
   have hB133 := hB120.ch hc129 (fun (h : b117 = b20) => by have := hB115.lt; omega)
   replace hB128 : Blk w127 b20 [iX 0, uX 0, uX 0, uX 0, iX 0, .string ByteArray.empty, .slice none 0 0, .string ByteArray.empty, iX 0] _ := Blk.to hB128 (by kernel_rfl)
   refine x_heldB hc129 iZ <| ydC [7] [] (fun u hu => .z) <| yDe (nS ?_)
   refine x_ret (yR2 [.agg #[iX 0, uX 0, uX 0, uX 0, iX 0, .string ByteArray.empty, .slice none 0 0, .string ByteArray.empty, iX 0], .slice (some ⟨b117, 0, none⟩) 1 1] (.a (hB128.cs 0 9) .z) ?_)
   refine Fed.mk' (p' := (PS.mk 0 ⟨0, 0, 0, 0⟩ ByteArray.empty [] ByteArray.empty 0)) (l := [Ac.mk 4 0 0 ByteArray.empty [] p.text]) none 0 0 (some b117) 1 1 (.inr (fun b h => by cases h)) rfl (IntsAt.nil _ _ _) (ActsAt.one hB133 ⟨by have := Ch.size hu130; omega, hB133.lt⟩ ⟨none, 0, 0, rfl, IntsAt.nil _ _ _⟩) (Up.ch hu130) ?_
   simp only [finishP, atP, hpp0, ↓reduceIte, Int.reduceEq, Int.reduceLE, Int.reduceLT, reduceCtorEq, and_true, and_self, true_and, or_true, true_or, or_false, false_or, and_false, false_and, ne_eq, not_true, not_false_iff]
  refine x_seff 6 _ (by kernel_rfl) rfl (yS hB115 fun w134 hB135 hc136 => ?_)
  have hu137 := Up.step hu112 hc136 (fun i hi (h : i = b20) => by omega)
  replace hB135 : Blk w134 b20 [iX 0, uX 0, uX 0, uX 0, iX 0, .string ByteArray.empty, .slice none 0 0, .string ByteArray.empty, iX 0] _ := Blk.to hB135 (by kernel_rfl)
  refine x_heldB hc136 iZ <| yK 5 (yB [iX 4, rX 0, uX 0, .string ByteArray.empty, .slice none 0 0, .string p.text] 78 1 fun w140 b141 hb142 hz143 hB144 hc145 => ?_)
  have hlo146 : w.heap.size ≤ b141 := by rw [hb142]; exact Ch.size hu137
  have hu147 := Up.step hu137 hc145 iZ
  have hB150 := hB135.ch hc145 id
  refine x_killed <| yd [7] [] .z <| yDe (nS ?_)
  refine x_ret (yR2 [.agg #[iX 0, uX 0, uX 0, uX 0, iX 0, .string ByteArray.empty, .slice none 0 0, .string ByteArray.empty, iX 0], .slice (some ⟨b141, 0, none⟩) 1 1] (.a (hB150.cs 0 9) .z) ?_)
  refine Fed.mk' (p' := (PS.mk 0 ⟨0, 0, 0, 0⟩ ByteArray.empty [] ByteArray.empty 0)) (l := [Ac.mk 4 0 0 ByteArray.empty [] p.text]) none 0 0 (some b141) 1 1 (.inr (fun b h => by cases h)) rfl (IntsAt.nil _ _ _) (ActsAt.one hB144 ⟨by have := Ch.size hu147; omega, hB144.lt⟩ ⟨none, 0, 0, rfl, IntsAt.nil _ _ _⟩) (Up.ch hu147) ?_
  simp only [finishP, atP, hpp0, ↓reduceIte, Int.reduceEq, Int.reduceLE, Int.reduceLT, reduceCtorEq, and_true, and_self, true_and, or_true, true_or, or_false, false_or, and_false, false_and, ne_eq, not_true, not_false_iff]
 refine x_skill 5 _ (by kernel_rfl) rfl (yB [iX 4, rX 0, uX 0, .string ByteArray.empty, .slice none 0 0, .string p.text] 78 1 fun w151 b152 hb153 hz154 hB155 hc156 => ?_)
 have hlo157 : w.heap.size ≤ b152 := by rw [hb153]; exact Ch.size hu106
 have hu158 := Up.step hu106 hc156 iZ
 have hB161 := hB109.ch hc156 id
 refine x_killedB (B := fun k => k = b20) <| yH 0 (yQ (pat_any 0 _) fun w163 hc162 => ?_)
 have hu164 := Up.step hu158 hc162 iZ
 have hB167 := hB161.ch hc162 id
 have hB168 := hB155.ch hc162 id
 refine x_heldB hc162 eZ <| yH 6 (yS hB167 fun w169 hB170 hc171 => ?_)
 have hu172 := Up.step hu164 hc171 (fun i hi (h : i = b20) => by omega)
 have hB175 := hB168.ch hc171 (fun (h : b152 = b20) => by have := hB109.lt; omega)
 replace hB170 : Blk w169 b20 [iX 0, uX 0, uX 0, uX 0, iX 0, .string ByteArray.empty, .slice none 0 0, .string ByteArray.empty, iX 0] _ := Blk.to hB170 (by kernel_rfl)
 refine x_heldB hc171 iZ <| ydC [7] [] (fun u hu => .z) <| yDe (nS ?_)
 refine x_ret (yR2 [.agg #[iX 0, uX 0, uX 0, uX 0, iX 0, .string ByteArray.empty, .slice none 0 0, .string ByteArray.empty, iX 0], .slice (some ⟨b152, 0, none⟩) 1 1] (.a (hB170.cs 0 9) .z) ?_)
 refine Fed.mk' (p' := (PS.mk 0 ⟨0, 0, 0, 0⟩ ByteArray.empty [] ByteArray.empty 0)) (l := [Ac.mk 4 0 0 ByteArray.empty [] p.text]) none 0 0 (some b152) 1 1 (.inr (fun b h => by cases h)) rfl (IntsAt.nil _ _ _) (ActsAt.one hB175 ⟨by have := Ch.size hu172; omega, hB175.lt⟩ ⟨none, 0, 0, rfl, IntsAt.nil _ _ _⟩) (Up.ch hu172) ?_
 simp only [finishP, atP, hpp0, ↓reduceIte, Int.reduceEq, Int.reduceLE, Int.reduceLT, reduceCtorEq, and_true, and_self, true_and, or_true, true_or, or_false, false_or, and_false, false_and, ne_eq, not_true, not_false_iff]
set_option maxHeartbeats 4000000 in
theorem escape_any {w : World} {po : Option Nat} {pn pc : Nat} {p : PS} (hP : IntsAt w .i64 po pn pc p.params (fun b => po = some b)) (c : Int) : Calls Tryz.prog 49 [.agg #[iX p.state, uX p.utf.b0, uX p.utf.b1, uX p.utf.b2, iX p.utf.n, .string p.marks, .slice (po.map at0) pn pc, .string p.text, iX p.within], uX c].toArray w fun e w' => Fed w w' e po (escapeP p c).1 (escapeP p c).2 := by
 refine yA Tryz.func49 rfl <| ysr <| yo (yN [iX p.state, uX p.utf.b0, uX p.utf.b1, uX p.utf.b2, iX p.utf.n, .string p.marks, .slice (po.map at0) pn pc, .string p.text, iX p.within] 54 fun w10 b11 hb12 hz13 hB14 hc15 => ?_)
 have hlo16 : w.heap.size ≤ b11 := by rw [hb12]; exact Ch.size (Up.refl w.heap.size w)
 have hu17 := Up.step (Up.refl w.heap.size w) hc15 iZ
 have hp18 := hP.ch hc15 iZ
 refine yo (yN [iX 0, uX 0, uX 0, uX 0, iX 0, .string ByteArray.empty, .slice none 0 0, .string ByteArray.empty, iX 0] 54 fun w19 b20 hb21 hz22 hB23 hc24 => ?_)
 have hlo25 : w.heap.size ≤ b20 := by rw [hb21]; exact Ch.size hu17
 have hu26 := Up.step hu17 hc24 iZ
 have hp27 := hp18.ch hc24 iZ
 have hB28 := hB14.ch hc24 id
 refine yp 3 [] .z <| ye <| ys <| x_block <| ysr <| yp 3 [] .z <| ye <| yc (rL c 48) (fun hC29 => ?_) fun hC29 => ?_
 ·have hpp0 := hC29
  refine ys <| ysr <| yp 4 [] (.l (hB28.c 5) .z) <| ye <| yc (rL ((p.marks).size : Int) 2) (fun hC30 => ?_) fun hC30 => ?_
  ·have hpp1 := hC30
   refine x_region <| yp 3 [] (.l (hB28.c 5) .z) <| yo (yB [uX c] 5 1 fun w31 b32 hb33 hz34 hB35 hc36 => ?_)
   have hlo37 : w.heap.size ≤ b32 := by rw [hb33]; exact Ch.size hu26
   have hu38 := Up.step hu26 hc36 iZ
   have hp39 := hp27.ch hc36 iZ
   have hB40 := hB28.ch hc36 id
   have hB41 := hB23.ch hc36 id
   refine yo (e_bytes (some ⟨b32, 0, none⟩) 1 1 [c] (some 17) (by kernel_rfl) (Rd.all hB35) rfl ?_)
   refine yp 7 [] (.p (q := (p.marks).size + ((bytesOf [c])).size ≤ 9223372036854775807) (by simp only [bytesOf_one]; omega) .z) <| yo (yS hB40 fun w42 hB43 hc44 => ?_)
   have hu45 := Up.step hu38 hc44 (fun i hi (h : i = b11) => by omega)
   have hp46 := hp39.ch hc44 (fun b hb (e : b = b11) => by have := (hP.2.2.2 b hb).2; have := hlo16; omega)
   have hB47 := hB41.ch hc44 (fun (h : b20 = b11) => by have := hB14.lt; omega)
   replace hB43 : Blk w42 b11 [iX p.state, uX p.utf.b0, uX p.utf.b1, uX p.utf.b2, iX p.utf.n, .string (p.marks ++ (bytesOf [c])), .slice (po.map at0) pn pc, .string p.text, iX p.within] _ := Blk.to hB43 (by kernel_rfl)
   refine ye <| ysr <| yp 1 [] .z <| yo (yS hB43 fun w49 hB50 hc51 => ?_)
   have hu52 := Up.step hu45 hc51 (fun i hi (h : i = b11) => by omega)
   have hp53 := hp46.ch hc51 (fun b hb (e : b = b11) => by have := (hP.2.2.2 b hb).2; have := hlo16; omega)
   have hB54 := hB47.ch hc51 (fun (h : b20 = b11) => by have := hB14.lt; omega)
   replace hB50 : Blk w49 b11 [iX 2, uX p.utf.b0, uX p.utf.b1, uX p.utf.b2, iX p.utf.n, .string (p.marks ++ (bytesOf [c])), .slice (po.map at0) pn pc, .string p.text, iX p.within] _ := Blk.to hB50 (by kernel_rfl)
   refine ye <| ysr <| yp 1 [] (.a (hB50.cs 0 9) .z) <| yo (yS hB54 fun w56 hB57 hc58 => ?_)
   have hu59 := Up.step hu52 hc58 (fun i hi (h : i = b20) => by omega)
   have hp60 := hp53.ch hc58 (fun b hb (e : b = b20) => by have := (hP.2.2.2 b hb).2; have := hlo25; omega)
   replace hB57 : Blk w56 b20 [iX 2, uX p.utf.b0, uX p.utf.b1, uX p.utf.b2, iX p.utf.n, .string (p.marks ++ (bytesOf [c])), .slice (po.map at0) pn pc, .string p.text, iX p.within] _ := Blk.to hB57 (by kernel_rfl)
   refine yp 3 [] .z <| ye <| x_ret (rB (rS (yR2 [.agg #[iX 2, uX p.utf.b0, uX p.utf.b1, uX p.utf.b2, iX p.utf.n, .string (p.marks ++ (bytesOf [c])), .slice (po.map at0) pn pc, .string p.text, iX p.within], .slice none 0 0] (.a (hB57.cs 0 9) .z) ?_)))
   refine Fed.mk' (p' := (PS.mk 2 ⟨p.utf.b0, p.utf.b1, p.utf.b2, p.utf.n⟩ (p.marks ++ (bytesOf [c])) p.params p.text p.within)) (l := []) po pn pc none 0 0 (.inl ⟨rfl, rfl, rfl, rfl⟩) rfl (hp60.old) (ActsAt.nil _ _) (Up.ch hu59) ?_
   simp only [escapeP, atP, hpp0, hpp1, ↓reduceIte, Int.reduceEq, Int.reduceLE, Int.reduceLT, reduceCtorEq, and_true, and_self, true_and, or_true, true_or, or_false, false_or, and_false, false_and, ne_eq, not_true, not_false_iff]
  have hpp1 := hC30
  refine yk <| ysr <| yp 1 [] .z <| yo (yS hB28 fun w63 hB64 hc65 => ?_)
  have hu66 := Up.step hu26 hc65 (fun i hi (h : i = b11) => by omega)
  have hp67 := hp27.ch hc65 (fun b hb (e : b = b11) => by have := (hP.2.2.2 b hb).2; have := hlo16; omega)
  have hB68 := hB23.ch hc65 (fun (h : b20 = b11) => by have := hB14.lt; omega)
  replace hB64 : Blk w63 b11 [iX 2, uX p.utf.b0, uX p.utf.b1, uX p.utf.b2, iX p.utf.n, .string p.marks, .slice (po.map at0) pn pc, .string p.text, iX p.within] _ := Blk.to hB64 (by kernel_rfl)
  refine ye <| ysr <| yp 1 [] (.a (hB64.cs 0 9) .z) <| yo (yS hB68 fun w69 hB70 hc71 => ?_)
  have hu72 := Up.step hu66 hc71 (fun i hi (h : i = b20) => by omega)
  have hp73 := hp67.ch hc71 (fun b hb (e : b = b20) => by have := (hP.2.2.2 b hb).2; have := hlo25; omega)
  replace hB70 : Blk w69 b20 [iX 2, uX p.utf.b0, uX p.utf.b1, uX p.utf.b2, iX p.utf.n, .string p.marks, .slice (po.map at0) pn pc, .string p.text, iX p.within] _ := Blk.to hB70 (by kernel_rfl)
  refine yp 3 [] .z <| ye <| x_ret (rB (rS (yR2 [.agg #[iX 2, uX p.utf.b0, uX p.utf.b1, uX p.utf.b2, iX p.utf.n, .string p.marks, .slice (po.map at0) pn pc, .string p.text, iX p.within], .slice none 0 0] (.a (hB70.cs 0 9) .z) ?_)))
  refine Fed.mk' (p' := (PS.mk 2 ⟨p.utf.b0, p.utf.b1, p.utf.b2, p.utf.n⟩ p.marks p.params p.text p.within)) (l := []) po pn pc none 0 0 (.inl ⟨rfl, rfl, rfl, rfl⟩) rfl (hp73.old) (ActsAt.nil _ _) (Up.ch hu72) ?_
  simp only [escapeP, atP, hpp0, hpp1, ↓reduceIte, Int.reduceEq, Int.reduceLE, Int.reduceLT, reduceCtorEq, and_true, and_self, true_and, or_true, true_or, or_false, false_or, and_false, false_and, ne_eq, not_true, not_false_iff]
 have hpp0 := hC29
 refine ysr <| yp 4 [] (.l (hB28.c 0) .z) <| yw [26] (rE p.state 1) (fun hC75 => ?_) fun hC75 => ?_
 ·have hpp1 := hC75
  refine yp 8 [] .z <| ye <| yc (rE c 91) (fun hC76 => ?_) fun hC76 => ?_
  ·have hpp2 := hC76
   refine ysr <| yo (yQ (pat_any 3 _) fun w78 hc77 => ?_)
   have hu79 := Up.step hu26 hc77 iZ
   have hB82 := hB23.ch hc77 id
   refine yo (yS hB82 fun w83 hB84 hc85 => ?_)
   have hu86 := Up.step hu79 hc85 (fun i hi (h : i = b20) => by omega)
   replace hB84 : Blk w83 b20 [iX 3, uX 0, uX 0, uX 0, iX 0, .string ByteArray.empty, .slice none 0 0, .string ByteArray.empty, iX 0] _ := Blk.to hB84 (by kernel_rfl)
   refine yp 3 [] .z <| ye <| x_ret (rB (rS (yR2 [.agg #[iX 3, uX 0, uX 0, uX 0, iX 0, .string ByteArray.empty, .slice none 0 0, .string ByteArray.empty, iX 0], .slice none 0 0] (.a (hB84.cs 0 9) .z) ?_)))
   refine Fed.mk' (p' := (PS.mk 3 ⟨0, 0, 0, 0⟩ ByteArray.empty [] ByteArray.empty 0)) (l := []) none 0 0 none 0 0 (.inl ⟨rfl, rfl, rfl, rfl⟩) rfl (IntsAt.nil _ _ _) (ActsAt.nil _ _) (Up.ch hu86) ?_
   simp only [escapeP, atP, hpp0, hpp1, hpp2, ↓reduceIte, Int.reduceEq, Int.reduceLE, Int.reduceLT, reduceCtorEq, and_true, and_self, true_and, or_true, true_or, or_false, false_or, and_false, false_and, ne_eq, not_true, not_false_iff]
  have hpp2 := hC76
  refine ysr <| yp 4 [] (.l (hB28.c 0) .z) <| yw [35] (rE p.state 1) (fun hC89 => ?_) fun hC89 => ?_
  ·have hpp3 := hC89
   refine yp 8 [] .z <| ye <| yc (rE c 93) (fun hC90 => ?_) fun hC90 => ?_
   ·have hpp4 := hC90
    refine ysr <| yo (yQ (pat_any 5 _) fun w92 hc91 => ?_)
    have hu93 := Up.step hu26 hc91 iZ
    have hB96 := hB23.ch hc91 id
    refine yo (yS hB96 fun w97 hB98 hc99 => ?_)
    have hu100 := Up.step hu93 hc99 (fun i hi (h : i = b20) => by omega)
    replace hB98 : Blk w97 b20 [iX 5, uX 0, uX 0, uX 0, iX 0, .string ByteArray.empty, .slice none 0 0, .string ByteArray.empty, iX 0] _ := Blk.to hB98 (by kernel_rfl)
    refine yp 3 [] .z <| ye <| x_ret (rB (rS (yR2 [.agg #[iX 5, uX 0, uX 0, uX 0, iX 0, .string ByteArray.empty, .slice none 0 0, .string ByteArray.empty, iX 0], .slice none 0 0] (.a (hB98.cs 0 9) .z) ?_)))
    refine Fed.mk' (p' := (PS.mk 5 ⟨0, 0, 0, 0⟩ ByteArray.empty [] ByteArray.empty 0)) (l := []) none 0 0 none 0 0 (.inl ⟨rfl, rfl, rfl, rfl⟩) rfl (IntsAt.nil _ _ _) (ActsAt.nil _ _) (Up.ch hu100) ?_
    simp only [escapeP, atP, hpp0, hpp1, hpp2, hpp3, hpp4, ↓reduceIte, Int.reduceEq, Int.reduceLE, Int.reduceLT, reduceCtorEq, and_true, and_self, true_and, or_true, true_or, or_false, false_or, and_false, false_and, ne_eq, not_true, not_false_iff]
   have hpp4 := hC90
   refine ysr <| yp 4 [] (.l (hB28.c 0) .z) <| yw [44] (rE p.state 1) (fun hC103 => ?_) fun hC103 => ?_
   ·have hpp5 := hC103
    refine yp 8 [] .z <| ye <| yc (rE c 80) (fun hC104 => ?_) fun hC104 => ?_
    ·have hpp6 := hC104
     refine ysr <| yo (yQ (pat_any 6 _) fun w106 hc105 => ?_)
     have hu107 := Up.step hu26 hc105 iZ
     have hB110 := hB23.ch hc105 id
     refine yo (yS hB110 fun w111 hB112 hc113 => ?_)
     have hu114 := Up.step hu107 hc113 (fun i hi (h : i = b20) => by omega)
     replace hB112 : Blk w111 b20 [iX 6, uX 0, uX 0, uX 0, iX 0, .string ByteArray.empty, .slice none 0 0, .string ByteArray.empty, iX 0] _ := Blk.to hB112 (by kernel_rfl)
     refine yp 3 [] .z <| ye <| x_ret (rB (rS (yR2 [.agg #[iX 6, uX 0, uX 0, uX 0, iX 0, .string ByteArray.empty, .slice none 0 0, .string ByteArray.empty, iX 0], .slice none 0 0] (.a (hB112.cs 0 9) .z) ?_)))
     refine Fed.mk' (p' := (PS.mk 6 ⟨0, 0, 0, 0⟩ ByteArray.empty [] ByteArray.empty 0)) (l := []) none 0 0 none 0 0 (.inl ⟨rfl, rfl, rfl, rfl⟩) rfl (IntsAt.nil _ _ _) (ActsAt.nil _ _) (Up.ch hu114) ?_
     simp only [escapeP, atP, hpp0, hpp1, hpp2, hpp3, hpp4, hpp5, hpp6, ↓reduceIte, Int.reduceEq, Int.reduceLE, Int.reduceLT, reduceCtorEq, and_true, and_self, true_and, or_true, true_or, or_false, false_or, and_false, false_and, ne_eq, not_true, not_false_iff]
    have hpp6 := hC104
    refine x_skip (nB (nS ?_))
    refine ys <| x_drawnB (fun k => k = b20) [5] (by kernel_rfl) (fun w117 hH118 hc119 => ?_)
    have hu120 := Up.step hu26 hc119 iZ
    have hB122 := hB28.ch hc119 id
    have hB123 := hB23.ch hc119 id
    refine ydC (uL 1 4) [] (fun u hu => (.l (cell_ch hu (hB122.c 5) (fun (h : b11 = b20) => by have := hB14.lt; omega)) .z)) <| x_dtwo 0 5 (by kernel_rfl) (by decide) ?_ ?_
    ·refine x_seff 0 _ (by kernel_rfl) rfl (yQ (pat_any 0 _) fun w125 hc124 => ?_)
     have hu126 := Up.step hu120 hc124 iZ
     have hB129 := hB123.ch hc124 id
     refine x_heldB hc124 eZ <| x_dtwo 5 6 (by kernel_rfl) (by decide) ?_ ?_
     ·refine x_skill 5 _ (by kernel_rfl) rfl (yB [iX 2, rX 0, uX c, .string p.marks, .slice none 0 0, .string ByteArray.empty] 78 1 fun w130 b131 hb132 hz133 hB134 hc135 => ?_)
      have hlo136 : w.heap.size ≤ b131 := by rw [hb132]; exact Ch.size hu126
      have hu137 := Up.step hu126 hc135 iZ
      have hB140 := hB129.ch hc135 id
      refine x_killedB (B := fun k => k = b20) <| yH 6 (yS hB140 fun w141 hB142 hc143 => ?_)
      have hu144 := Up.step hu137 hc143 (fun i hi (h : i = b20) => by omega)
      have hB147 := hB134.ch hc143 (fun (h : b131 = b20) => by have := hB129.lt; omega)
      replace hB142 : Blk w141 b20 [iX 0, uX 0, uX 0, uX 0, iX 0, .string ByteArray.empty, .slice none 0 0, .string ByteArray.empty, iX 0] _ := Blk.to hB142 (by kernel_rfl)
      refine x_heldB hc143 iZ <| ydC [7] [] (fun u hu => .z) <| yDe (nS ?_)
      refine x_ret (yR2 [.agg #[iX 0, uX 0, uX 0, uX 0, iX 0, .string ByteArray.empty, .slice none 0 0, .string ByteArray.empty, iX 0], .slice (some ⟨b131, 0, none⟩) 1 1] (.a (hB142.cs 0 9) .z) ?_)
      refine Fed.mk' (p' := (PS.mk 0 ⟨0, 0, 0, 0⟩ ByteArray.empty [] ByteArray.empty 0)) (l := [Ac.mk 2 0 c p.marks [] ByteArray.empty]) none 0 0 (some b131) 1 1 (.inr (fun b h => by cases h)) rfl (IntsAt.nil _ _ _) (ActsAt.one hB147 ⟨by have := Ch.size hu144; omega, hB147.lt⟩ ⟨none, 0, 0, rfl, IntsAt.nil _ _ _⟩) (Up.ch hu144) ?_
      simp only [escapeP, atP, hpp0, hpp1, hpp2, hpp3, hpp4, hpp5, hpp6, ↓reduceIte, Int.reduceEq, Int.reduceLE, Int.reduceLT, reduceCtorEq, and_true, and_self, true_and, or_true, true_or, or_false, false_or, and_false, false_and, ne_eq, not_true, not_false_iff]
     refine x_seff 6 _ (by kernel_rfl) rfl (yS hB129 fun w148 hB149 hc150 => ?_)
     have hu151 := Up.step hu126 hc150 (fun i hi (h : i = b20) => by omega)
     replace hB149 : Blk w148 b20 [iX 0, uX 0, uX 0, uX 0, iX 0, .string ByteArray.empty, .slice none 0 0, .string ByteArray.empty, iX 0] _ := Blk.to hB149 (by kernel_rfl)
     refine x_heldB hc150 iZ <| yK 5 (yB [iX 2, rX 0, uX c, .string p.marks, .slice none 0 0, .string ByteArray.empty] 78 1 fun w154 b155 hb156 hz157 hB158 hc159 => ?_)
     have hlo160 : w.heap.size ≤ b155 := by rw [hb156]; exact Ch.size hu151
     have hu161 := Up.step hu151 hc159 iZ
     have hB164 := hB149.ch hc159 id
     refine x_killed <| yd [7] [] .z <| yDe (nS ?_)
     refine x_ret (yR2 [.agg #[iX 0, uX 0, uX 0, uX 0, iX 0, .string ByteArray.empty, .slice none 0 0, .string ByteArray.empty, iX 0], .slice (some ⟨b155, 0, none⟩) 1 1] (.a (hB164.cs 0 9) .z) ?_)
     refine Fed.mk' (p' := (PS.mk 0 ⟨0, 0, 0, 0⟩ ByteArray.empty [] ByteArray.empty 0)) (l := [Ac.mk 2 0 c p.marks [] ByteArray.empty]) none 0 0 (some b155) 1 1 (.inr (fun b h => by cases h)) rfl (IntsAt.nil _ _ _) (ActsAt.one hB158 ⟨by have := Ch.size hu161; omega, hB158.lt⟩ ⟨none, 0, 0, rfl, IntsAt.nil _ _ _⟩) (Up.ch hu161) ?_
     simp only [escapeP, atP, hpp0, hpp1, hpp2, hpp3, hpp4, hpp5, hpp6, ↓reduceIte, Int.reduceEq, Int.reduceLE, Int.reduceLT, reduceCtorEq, and_true, and_self, true_and, or_true, true_or, or_false, false_or, and_false, false_and, ne_eq, not_true, not_false_iff]
    refine x_skill 5 _ (by kernel_rfl) rfl (yB [iX 2, rX 0, uX c, .string p.marks, .slice none 0 0, .string ByteArray.empty] 78 1 fun w165 b166 hb167 hz168 hB169 hc170 => ?_)
    have hlo171 : w.heap.size ≤ b166 := by rw [hb167]; exact Ch.size hu120
    have hu172 := Up.step hu120 hc170 iZ
    have hB175 := hB123.ch hc170 id
    refine x_killedB (B := fun k => k = b20) <| yH 0 (yQ (pat_any 0 _) fun w177 hc176 => ?_)
    have hu178 := Up.step hu172 hc176 iZ
    have hB181 := hB175.ch hc176 id
    have hB182 := hB169.ch hc176 id
    refine x_heldB hc176 eZ <| yH 6 (yS hB181 fun w183 hB184 hc185 => ?_)
    have hu186 := Up.step hu178 hc185 (fun i hi (h : i = b20) => by omega)
    have hB189 := hB182.ch hc185 (fun (h : b166 = b20) => by have := hB123.lt; omega)
    replace hB184 : Blk w183 b20 [iX 0, uX 0, uX 0, uX 0, iX 0, .string ByteArray.empty, .slice none 0 0, .string ByteArray.empty, iX 0] _ := Blk.to hB184 (by kernel_rfl)
    refine x_heldB hc185 iZ <| ydC [7] [] (fun u hu => .z) <| yDe (nS ?_)
    refine x_ret (yR2 [.agg #[iX 0, uX 0, uX 0, uX 0, iX 0, .string ByteArray.empty, .slice none 0 0, .string ByteArray.empty, iX 0], .slice (some ⟨b166, 0, none⟩) 1 1] (.a (hB184.cs 0 9) .z) ?_)
    refine Fed.mk' (p' := (PS.mk 0 ⟨0, 0, 0, 0⟩ ByteArray.empty [] ByteArray.empty 0)) (l := [Ac.mk 2 0 c p.marks [] ByteArray.empty]) none 0 0 (some b166) 1 1 (.inr (fun b h => by cases h)) rfl (IntsAt.nil _ _ _) (ActsAt.one hB189 ⟨by have := Ch.size hu186; omega, hB189.lt⟩ ⟨none, 0, 0, rfl, IntsAt.nil _ _ _⟩) (Up.ch hu186) ?_
    simp only [escapeP, atP, hpp0, hpp1, hpp2, hpp3, hpp4, hpp5, hpp6, ↓reduceIte, Int.reduceEq, Int.reduceLE, Int.reduceLT, reduceCtorEq, and_true, and_self, true_and, or_true, true_or, or_false, false_or, and_false, false_and, ne_eq, not_true, not_false_iff]
   exfalso; omega
  exfalso; omega
 have hpp1 := hC75
 refine yp 8 [] .z <| ye <| ycf <| ysr <| yp 4 [] (.l (hB28.c 0) .z) <| yw [35] (rE p.state 1) (fun hC190 => ?_) fun hC190 => ?_
 ·exfalso; omega
 have hpp2 := hC190
 refine yp 8 [] .z <| ye <| ycf <| ysr <| yp 4 [] (.l (hB28.c 0) .z) <| yw [44] (rE p.state 1) (fun hC191 => ?_) fun hC191 => ?_
 ·exfalso; omega
 have hpp3 := hC191
 refine yp 8 [] .z <| ye <| ycf <| x_skip (nB (nS ?_))
 refine ys <| x_drawnB (fun k => k = b20) [5] (by kernel_rfl) (fun w192 hH193 hc194 => ?_)
 have hu195 := Up.step hu26 hc194 iZ
 have hB197 := hB28.ch hc194 id
 have hB198 := hB23.ch hc194 id
 refine ydC (uL 1 4) [] (fun u hu => (.l (cell_ch hu (hB197.c 5) (fun (h : b11 = b20) => by have := hB14.lt; omega)) .z)) <| x_dtwo 0 5 (by kernel_rfl) (by decide) ?_ ?_
 ·refine x_seff 0 _ (by kernel_rfl) rfl (yQ (pat_any 0 _) fun w200 hc199 => ?_)
  have hu201 := Up.step hu195 hc199 iZ
  have hB204 := hB198.ch hc199 id
  refine x_heldB hc199 eZ <| x_dtwo 5 6 (by kernel_rfl) (by decide) ?_ ?_
  ·refine x_skill 5 _ (by kernel_rfl) rfl (yB [iX 2, rX 0, uX c, .string p.marks, .slice none 0 0, .string ByteArray.empty] 78 1 fun w205 b206 hb207 hz208 hB209 hc210 => ?_)
   have hlo211 : w.heap.size ≤ b206 := by rw [hb207]; exact Ch.size hu201
   have hu212 := Up.step hu201 hc210 iZ
   have hB215 := hB204.ch hc210 id
   refine x_killedB (B := fun k => k = b20) <| yH 6 (yS hB215 fun w216 hB217 hc218 => ?_)
   have hu219 := Up.step hu212 hc218 (fun i hi (h : i = b20) => by omega)
   have hB222 := hB209.ch hc218 (fun (h : b206 = b20) => by have := hB204.lt; omega)
   replace hB217 : Blk w216 b20 [iX 0, uX 0, uX 0, uX 0, iX 0, .string ByteArray.empty, .slice none 0 0, .string ByteArray.empty, iX 0] _ := Blk.to hB217 (by kernel_rfl)
   refine x_heldB hc218 iZ <| ydC [7] [] (fun u hu => .z) <| yDe (nS ?_)
   refine x_ret (yR2 [.agg #[iX 0, uX 0, uX 0, uX 0, iX 0, .string ByteArray.empty, .slice none 0 0, .string ByteArray.empty, iX 0], .slice (some ⟨b206, 0, none⟩) 1 1] (.a (hB217.cs 0 9) .z) ?_)
   refine Fed.mk' (p' := (PS.mk 0 ⟨0, 0, 0, 0⟩ ByteArray.empty [] ByteArray.empty 0)) (l := [Ac.mk 2 0 c p.marks [] ByteArray.empty]) none 0 0 (some b206) 1 1 (.inr (fun b h => by cases h)) rfl (IntsAt.nil _ _ _) (ActsAt.one hB222 ⟨by have := Ch.size hu219; omega, hB222.lt⟩ ⟨none, 0, 0, rfl, IntsAt.nil _ _ _⟩) (Up.ch hu219) ?_
   simp only [escapeP, atP, hpp0, hpp1, hpp2, hpp3, ↓reduceIte, Int.reduceEq, Int.reduceLE, Int.reduceLT, reduceCtorEq, and_true, and_self, true_and, or_true, true_or, or_false, false_or, and_false, false_and, ne_eq, not_true, not_false_iff]
  refine x_seff 6 _ (by kernel_rfl) rfl (yS hB204 fun w223 hB224 hc225 => ?_)
  have hu226 := Up.step hu201 hc225 (fun i hi (h : i = b20) => by omega)
  replace hB224 : Blk w223 b20 [iX 0, uX 0, uX 0, uX 0, iX 0, .string ByteArray.empty, .slice none 0 0, .string ByteArray.empty, iX 0] _ := Blk.to hB224 (by kernel_rfl)
  refine x_heldB hc225 iZ <| yK 5 (yB [iX 2, rX 0, uX c, .string p.marks, .slice none 0 0, .string ByteArray.empty] 78 1 fun w229 b230 hb231 hz232 hB233 hc234 => ?_)
  have hlo235 : w.heap.size ≤ b230 := by rw [hb231]; exact Ch.size hu226
  have hu236 := Up.step hu226 hc234 iZ
  have hB239 := hB224.ch hc234 id
  refine x_killed <| yd [7] [] .z <| yDe (nS ?_)
  refine x_ret (yR2 [.agg #[iX 0, uX 0, uX 0, uX 0, iX 0, .string ByteArray.empty, .slice none 0 0, .string ByteArray.empty, iX 0], .slice (some ⟨b230, 0, none⟩) 1 1] (.a (hB239.cs 0 9) .z) ?_)
  refine Fed.mk' (p' := (PS.mk 0 ⟨0, 0, 0, 0⟩ ByteArray.empty [] ByteArray.empty 0)) (l := [Ac.mk 2 0 c p.marks [] ByteArray.empty]) none 0 0 (some b230) 1 1 (.inr (fun b h => by cases h)) rfl (IntsAt.nil _ _ _) (ActsAt.one hB233 ⟨by have := Ch.size hu236; omega, hB233.lt⟩ ⟨none, 0, 0, rfl, IntsAt.nil _ _ _⟩) (Up.ch hu236) ?_
  simp only [escapeP, atP, hpp0, hpp1, hpp2, hpp3, ↓reduceIte, Int.reduceEq, Int.reduceLE, Int.reduceLT, reduceCtorEq, and_true, and_self, true_and, or_true, true_or, or_false, false_or, and_false, false_and, ne_eq, not_true, not_false_iff]
 refine x_skill 5 _ (by kernel_rfl) rfl (yB [iX 2, rX 0, uX c, .string p.marks, .slice none 0 0, .string ByteArray.empty] 78 1 fun w240 b241 hb242 hz243 hB244 hc245 => ?_)
 have hlo246 : w.heap.size ≤ b241 := by rw [hb242]; exact Ch.size hu195
 have hu247 := Up.step hu195 hc245 iZ
 have hB250 := hB198.ch hc245 id
 refine x_killedB (B := fun k => k = b20) <| yH 0 (yQ (pat_any 0 _) fun w252 hc251 => ?_)
 have hu253 := Up.step hu247 hc251 iZ
 have hB256 := hB250.ch hc251 id
 have hB257 := hB244.ch hc251 id
 refine x_heldB hc251 eZ <| yH 6 (yS hB256 fun w258 hB259 hc260 => ?_)
 have hu261 := Up.step hu253 hc260 (fun i hi (h : i = b20) => by omega)
 have hB264 := hB257.ch hc260 (fun (h : b241 = b20) => by have := hB198.lt; omega)
 replace hB259 : Blk w258 b20 [iX 0, uX 0, uX 0, uX 0, iX 0, .string ByteArray.empty, .slice none 0 0, .string ByteArray.empty, iX 0] _ := Blk.to hB259 (by kernel_rfl)
 refine x_heldB hc260 iZ <| ydC [7] [] (fun u hu => .z) <| yDe (nS ?_)
 refine x_ret (yR2 [.agg #[iX 0, uX 0, uX 0, uX 0, iX 0, .string ByteArray.empty, .slice none 0 0, .string ByteArray.empty, iX 0], .slice (some ⟨b241, 0, none⟩) 1 1] (.a (hB259.cs 0 9) .z) ?_)
 refine Fed.mk' (p' := (PS.mk 0 ⟨0, 0, 0, 0⟩ ByteArray.empty [] ByteArray.empty 0)) (l := [Ac.mk 2 0 c p.marks [] ByteArray.empty]) none 0 0 (some b241) 1 1 (.inr (fun b h => by cases h)) rfl (IntsAt.nil _ _ _) (ActsAt.one hB264 ⟨by have := Ch.size hu261; omega, hB264.lt⟩ ⟨none, 0, 0, rfl, IntsAt.nil _ _ _⟩) (Up.ch hu261) ?_
 simp only [escapeP, atP, hpp0, hpp1, hpp2, hpp3, ↓reduceIte, Int.reduceEq, Int.reduceLE, Int.reduceLT, reduceCtorEq, and_true, and_self, true_and, or_true, true_or, or_false, false_or, and_false, false_and, ne_eq, not_true, not_false_iff]
set_option maxHeartbeats 4000000 in
theorem psome_any {w : World} {po : Option Nat} {pn pc : Nat} {p : PS} (hP : IntsAt w .i64 po pn pc p.params (fun b => po = some b)) (hn : pn ≤ 100) : Calls Tryz.prog 78 [.agg #[iX p.state, uX p.utf.b0, uX p.utf.b1, uX p.utf.b2, iX p.utf.n, .string p.marks, .slice (po.map at0) pn pc, .string p.text, iX p.within]].toArray w fun e w' => ∃ b n c, e = .returned (.slice (some ⟨b, 0, none⟩) n c) ∧ Own w' tInt 1 (some b) n c ((someL p.params).map (Value.int .i64)) ∧ w.heap.size ≤ b ∧ Ch (fun _ => False) w w' := by
 have hPn := hP.2.1
 refine yA Tryz.func78 rfl <| ysr <| yo (yN [iX p.state, uX p.utf.b0, uX p.utf.b1, uX p.utf.b2, iX p.utf.n, .string p.marks, .slice (po.map at0) pn pc, .string p.text, iX p.within] 54 fun w10 b11 hb12 hz13 hB14 hc15 => ?_)
 have hlo16 : w.heap.size ≤ b11 := by rw [hb12]; exact Ch.size (Up.refl w.heap.size w)
 have hu17 := Up.step (Up.refl w.heap.size w) hc15 iZ
 have hp18 := hP.ch hc15 iZ
 refine yp 2 [] .z <| ye <| ys <| ysr <| yp 4 [] (.l (hB14.c 6) .z) <| ye <| yc (rE ((pn : Nat) : Int) 0) (fun hC19 => ?_) fun hC19 => ?_
 ·have hpp0 := hC19
  refine ysr <| yo (yB [iX 0] 3 1 fun w20 b21 hb22 hz23 hB24 hc25 => ?_)
  have hlo26 : w.heap.size ≤ b21 := by rw [hb22]; exact Ch.size hu17
  have hu27 := Up.step hu17 hc25 iZ
  refine yp 2 [] .z <| ye <| x_ret (rS (yR1 (.slice (some ⟨b21, 0, none⟩) 1 1) ?_))
  refine ⟨b21, 1, 1, rfl, ?_, by omega, Up.ch hu27⟩
  rw [show someL p.params = [0] from if_pos (by omega)]
  exact Own.blk hB24 rfl (by decide)
 have hpp0 := hC19
 refine yk <| ysr <| yp 2 [] (.l (hB14.c 6) .z) ?_
 refine yo (e_app' 3 1 8 none 0 0 [] (po.map at0) pn pc (p.params.map (Value.int .i64)) (some 10) pn (Nat.zero_add _) (p.params.map (Value.int .i64)) rfl (by kernel_rfl) (Own.nil _ _ _) hp18.1 (by rw [List.length_map, hp18.2.1, Nat.mul_one]) (ints_one _) (fun h => hp18.2.2.1 (by cases po <;> simp_all)) (by constructor <;> first | omega | (simp only [maxLen]; omega)) ?_)
 intro w30 og31 cp32 hO33 hne34 hpos35 hc36
 replace hc36 := ch_none hc36
 have hlo37 : ∀ b, og31 = some b → w.heap.size ≤ b := fun b e => by
  rcases hne34 with h | ⟨g', h, h'⟩
  ·rw [h] at e; cases e
  rw [h] at e; have := Option.some.inj e; have := Ch.size hu17; omega
 have hu38 := Up.step hu17 hc36 iZ
 have hold41 : ¬ og31 = some b11 := fun e => by
  rcases hne34 with h | ⟨g', h, h'⟩
  ·rw [h] at e; cases e
  rw [h] at e; have := Option.some.inj e; have := hB14.lt; omega
 refine yp 4 [] .z <| ye <| x_ret (yR1 (.slice (og31.map at0) pn cp32) ?_)
 have hpn : 0 < pn := by omega
 cases og31 with
 | none => exact absurd (hO33.2.2.2.1 rfl).1 (by omega)
 | some b =>
  refine ⟨b, pn, cp32, rfl, ?_, hlo37 b rfl, Up.ch hu38⟩
  rw [show someL p.params = p.params from if_neg (by omega)]
  exact hO33
set_option maxHeartbeats 4000000 in
theorem string_any {w : World} {po : Option Nat} {pn pc : Nat} {p : PS} (hP : IntsAt w .i64 po pn pc p.params (fun b => po = some b)) (c : Int) (ht : p.text.size ≤ 1000) : Calls Tryz.prog 47 [.agg #[iX p.state, uX p.utf.b0, uX p.utf.b1, uX p.utf.b2, iX p.utf.n, .string p.marks, .slice (po.map at0) pn pc, .string p.text, iX p.within], uX c].toArray w fun e w' => Fed w w' e po (stringP p c).1 (stringP p c).2 := by
 refine yA Tryz.func47 rfl <| ysr <| yo (yN [iX p.state, uX p.utf.b0, uX p.utf.b1, uX p.utf.b2, iX p.utf.n, .string p.marks, .slice (po.map at0) pn pc, .string p.text, iX p.within] 54 fun w10 b11 hb12 hz13 hB14 hc15 => ?_)
 have hlo16 : w.heap.size ≤ b11 := by rw [hb12]; exact Ch.size (Up.refl w.heap.size w)
 have hu17 := Up.step (Up.refl w.heap.size w) hc15 iZ
 have hp18 := hP.ch hc15 iZ
 refine yo (yN [iX 0, uX 0, uX 0, uX 0, iX 0, .string ByteArray.empty, .slice none 0 0, .string ByteArray.empty, iX 0] 54 fun w19 b20 hb21 hz22 hB23 hc24 => ?_)
 have hlo25 : w.heap.size ≤ b20 := by rw [hb21]; exact Ch.size hu17
 have hu26 := Up.step hu17 hc24 iZ
 have hp27 := hp18.ch hc24 iZ
 have hB28 := hB14.ch hc24 id
 refine yp 3 [] .z <| ye <| ys <| x_block <| ysr <| yp 3 [] .z <| ye <| yc (rE c 27) (fun hC29 => ?_) fun hC29 => ?_
 ·have hpp0 := hC29
  refine x_region <| yp 3 [] (.l (hB28.c 0) .z) <| yo (yS hB28 fun w30 hB31 hc32 => ?_)
  have hu33 := Up.step hu26 hc32 (fun i hi (h : i = b11) => by omega)
  have hp34 := hp27.ch hc32 (fun b hb (e : b = b11) => by have := (hP.2.2.2 b hb).2; have := hlo16; omega)
  have hB35 := hB23.ch hc32 (fun (h : b20 = b11) => by have := hB14.lt; omega)
  replace hB31 : Blk w30 b11 [iX p.state, uX p.utf.b0, uX p.utf.b1, uX p.utf.b2, iX p.utf.n, .string p.marks, .slice (po.map at0) pn pc, .string p.text, iX p.state] _ := Blk.to hB31 (by kernel_rfl)
  refine yp 5 [] .z <| yo (yS hB31 fun w36 hB37 hc38 => ?_)
  have hu39 := Up.step hu33 hc38 (fun i hi (h : i = b11) => by omega)
  have hp40 := hp34.ch hc38 (fun b hb (e : b = b11) => by have := (hP.2.2.2 b hb).2; have := hlo16; omega)
  have hB41 := hB35.ch hc38 (fun (h : b20 = b11) => by have := hB14.lt; omega)
  replace hB37 : Blk w36 b11 [iX 7, uX p.utf.b0, uX p.utf.b1, uX p.utf.b2, iX p.utf.n, .string p.marks, .slice (po.map at0) pn pc, .string p.text, iX p.state] _ := Blk.to hB37 (by kernel_rfl)
  refine yE (nB (nS ?_))
  refine ysr <| yp 1 [] (.a (hB37.cs 0 9) .z) <| yo (yS hB41 fun w42 hB43 hc44 => ?_)
  have hu45 := Up.step hu39 hc44 (fun i hi (h : i = b20) => by omega)
  have hp46 := hp40.ch hc44 (fun b hb (e : b = b20) => by have := (hP.2.2.2 b hb).2; have := hlo25; omega)
  replace hB43 : Blk w42 b20 [iX 7, uX p.utf.b0, uX p.utf.b1, uX p.utf.b2, iX p.utf.n, .string p.marks, .slice (po.map at0) pn pc, .string p.text, iX p.state] _ := Blk.to hB43 (by kernel_rfl)
  refine yp 3 [] .z <| ye <| x_ret (yR2 [.agg #[iX 7, uX p.utf.b0, uX p.utf.b1, uX p.utf.b2, iX p.utf.n, .string p.marks, .slice (po.map at0) pn pc, .string p.text, iX p.state], .slice none 0 0] (.a (hB43.cs 0 9) .z) ?_)
  refine Fed.mk' (p' := (PS.mk 7 ⟨p.utf.b0, p.utf.b1, p.utf.b2, p.utf.n⟩ p.marks p.params p.text p.state)) (l := []) po pn pc none 0 0 (.inl ⟨rfl, rfl, rfl, rfl⟩) rfl (hp46.old) (ActsAt.nil _ _) (Up.ch hu45) ?_
  simp only [stringP, atP, hpp0, ↓reduceIte, Int.reduceEq, Int.reduceLE, Int.reduceLT, reduceCtorEq, and_true, and_self, true_and, or_true, true_or, or_false, false_or, and_false, false_and, ne_eq, not_true, not_false_iff]
 have hpp0 := hC29
 refine ysr <| yp 3 [] .z <| yw [16] (rE c 7) (fun hC48 => ?_) fun hC48 => ?_
 ·have hpp1 := hC48
  refine yp 8 [] (.l (hB28.c 0) .z) <| ye <| yc (rE p.state 5) (fun hC49 => ?_) fun hC49 => ?_
  ·have hpp2 := hC49
   refine ysr <| yp 1 [] (.a (hB28.cs 0 9) .z) <| yo (yC (finish_any hp27 5 ) ?_)
   rintro _ w59 ⟨qo50, qn51, qc52, ao53, an54, ac55, rfl, hq56, ha57, hc58⟩
   refine ⟨_, rfl, ?_⟩
   have hold60 : b11 < w19.heap.size := hB28.lt
   have hold61 : b20 < w19.heap.size := hB23.lt
   have hu62 := Up.step hu26 hc58 iZ
   have hB65 := hB23.ch hc58 id
   have hs66 : w59.heap.size ≤ w59.heap.size := Nat.le_refl _
   refine yp 4 [] .z <| yo (yS hB65 fun w67 hB68 hc69 => ?_)
   have hu70 := Up.step hu62 hc69 (fun i hi (h : i = b20) => by omega)
   have hq73 := hq56.ch hc69 (fun b hb (e : b = b20) => hb.elim (fun hb => by have := (hP.2.2.2 b hb).2; have := hlo25; omega) (fun hb => by have := hold61; omega))
   have ha74 := ha57.ch hc69 (fun b hb (e : b = b20) => by have := hold61; omega)
   have hs75 := Nat.le_trans hs66 (Ch.size hc69)
   replace hB68 : Blk w67 b20 [iX (finishP p 5).1.state, uX (finishP p 5).1.utf.b0, uX (finishP p 5).1.utf.b1, uX (finishP p 5).1.utf.b2, iX (finishP p 5).1.utf.n, .string (finishP p 5).1.marks, .slice (qo50.map at0) qn51 qc52, .string (finishP p 5).1.text, iX (finishP p 5).1.within] _ := Blk.to hB68 (by kernel_rfl)
   refine yp 6 [] .z <| ye <| x_ret (rB (rS (yR2 [.agg #[iX (finishP p 5).1.state, uX (finishP p 5).1.utf.b0, uX (finishP p 5).1.utf.b1, uX (finishP p 5).1.utf.b2, iX (finishP p 5).1.utf.n, .string (finishP p 5).1.marks, .slice (qo50.map at0) qn51 qc52, .string (finishP p 5).1.text, iX (finishP p 5).1.within], .slice (ao53.map at0) an54 ac55] (.a (hB68.cs 0 9) .z) ?_)))
   have hpre := Ch.size hu26
   refine Fed.mk2 (p' := (finishP p 5).1) (l := (finishP p 5).2) qo50 qn51 qc52 ao53 an54 ac55 rfl (hq73.mono fun b hb => hb.imp id fun h => ⟨by omega, by omega⟩) (ha74.mono fun b h => ⟨⟨by omega, by omega⟩, h.2⟩) (Up.ch hu70) ?_
   simp only [stringP, atP, hpp0, hpp1, hpp2, ↓reduceIte, Int.reduceEq, Int.reduceLE, Int.reduceLT, reduceCtorEq, and_true, and_self, true_and, or_true, true_or, or_false, false_or, and_false, false_and, ne_eq, not_true, not_false_iff]
  have hpp2 := hC49
  refine ysr <| yp 3 [] .z <| yw [28] (rE c 24) (fun hC76 => ?_) fun hC76 => ?_
  ·exfalso; omega
  have hpp3 := hC76
  refine yp 7 [] .z <| ye <| yc (rE c 26) (fun hC77 => ?_) fun hC77 => ?_
  ·exfalso; omega
  have hpp4 := hC77
  refine ysr <| yp 3 [] .z <| yw [36] (rM 32 c) (fun hC78 => ?_) fun hC78 => ?_
  ·exfalso; omega
  have hpp5 := hC78
  refine yp 9 [] .z <| ye <| ycf <| x_skip (nB (nS ?_))
  refine ysr <| yp 1 [] (.a (hB28.cs 0 9) .z) <| yo (yS hB23 fun w79 hB80 hc81 => ?_)
  have hu82 := Up.step hu26 hc81 (fun i hi (h : i = b20) => by omega)
  have hp83 := hp27.ch hc81 (fun b hb (e : b = b20) => by have := (hP.2.2.2 b hb).2; have := hlo25; omega)
  replace hB80 : Blk w79 b20 [iX p.state, uX p.utf.b0, uX p.utf.b1, uX p.utf.b2, iX p.utf.n, .string p.marks, .slice (po.map at0) pn pc, .string p.text, iX p.within] _ := Blk.to hB80 (by kernel_rfl)
  refine yp 3 [] .z <| ye <| x_ret (yR2 [.agg #[iX p.state, uX p.utf.b0, uX p.utf.b1, uX p.utf.b2, iX p.utf.n, .string p.marks, .slice (po.map at0) pn pc, .string p.text, iX p.within], .slice none 0 0] (.a (hB80.cs 0 9) .z) ?_)
  refine Fed.mk' (p' := (PS.mk p.state ⟨p.utf.b0, p.utf.b1, p.utf.b2, p.utf.n⟩ p.marks p.params p.text p.within)) (l := []) po pn pc none 0 0 (.inl ⟨rfl, rfl, rfl, rfl⟩) rfl (hp83.old) (ActsAt.nil _ _) (Up.ch hu82) ?_
  simp only [stringP, atP, hpp0, hpp1, hpp2, hpp3, hpp4, hpp5, ↓reduceIte, Int.reduceEq, Int.reduceLE, Int.reduceLT, reduceCtorEq, and_true, and_self, true_and, or_true, true_or, or_false, false_or, and_false, false_and, ne_eq, not_true, not_false_iff]
 have hpp1 := hC48
 refine yp 8 [] .z <| ye <| ycf <| ysr <| yp 3 [] .z <| yw [28] (rE c 24) (fun hC85 => ?_) fun hC85 => ?_
 ·have hpp2 := hC85
  refine yp 7 [] .z <| ye <| yct <| ysr <| yo (yQ (pat_any 0 _) fun w87 hc86 => ?_)
  have hu88 := Up.step hu26 hc86 iZ
  have hB91 := hB23.ch hc86 id
  refine yo (yS hB91 fun w92 hB93 hc94 => ?_)
  have hu95 := Up.step hu88 hc94 (fun i hi (h : i = b20) => by omega)
  replace hB93 : Blk w92 b20 [iX 0, uX 0, uX 0, uX 0, iX 0, .string ByteArray.empty, .slice none 0 0, .string ByteArray.empty, iX 0] _ := Blk.to hB93 (by kernel_rfl)
  refine yp 3 [] .z <| ye <| x_ret (rB (rS (yR2 [.agg #[iX 0, uX 0, uX 0, uX 0, iX 0, .string ByteArray.empty, .slice none 0 0, .string ByteArray.empty, iX 0], .slice none 0 0] (.a (hB93.cs 0 9) .z) ?_)))
  refine Fed.mk' (p' := (PS.mk 0 ⟨0, 0, 0, 0⟩ ByteArray.empty [] ByteArray.empty 0)) (l := []) none 0 0 none 0 0 (.inl ⟨rfl, rfl, rfl, rfl⟩) rfl (IntsAt.nil _ _ _) (ActsAt.nil _ _) (Up.ch hu95) ?_
  simp only [stringP, atP, hpp0, hpp1, hpp2, ↓reduceIte, Int.reduceEq, Int.reduceLE, Int.reduceLT, reduceCtorEq, and_true, and_self, true_and, or_true, true_or, or_false, false_or, and_false, false_and, ne_eq, not_true, not_false_iff]
 have hpp2 := hC85
 refine yp 7 [] .z <| ye <| yc (rE c 26) (fun hC98 => ?_) fun hC98 => ?_
 ·have hpp3 := hC98
  refine ysr <| yo (yQ (pat_any 0 _) fun w100 hc99 => ?_)
  have hu101 := Up.step hu26 hc99 iZ
  have hB104 := hB23.ch hc99 id
  refine yo (yS hB104 fun w105 hB106 hc107 => ?_)
  have hu108 := Up.step hu101 hc107 (fun i hi (h : i = b20) => by omega)
  replace hB106 : Blk w105 b20 [iX 0, uX 0, uX 0, uX 0, iX 0, .string ByteArray.empty, .slice none 0 0, .string ByteArray.empty, iX 0] _ := Blk.to hB106 (by kernel_rfl)
  refine yp 3 [] .z <| ye <| x_ret (rB (rS (yR2 [.agg #[iX 0, uX 0, uX 0, uX 0, iX 0, .string ByteArray.empty, .slice none 0 0, .string ByteArray.empty, iX 0], .slice none 0 0] (.a (hB106.cs 0 9) .z) ?_)))
  refine Fed.mk' (p' := (PS.mk 0 ⟨0, 0, 0, 0⟩ ByteArray.empty [] ByteArray.empty 0)) (l := []) none 0 0 none 0 0 (.inl ⟨rfl, rfl, rfl, rfl⟩) rfl (IntsAt.nil _ _ _) (ActsAt.nil _ _) (Up.ch hu108) ?_
  simp only [stringP, atP, hpp0, hpp1, hpp2, hpp3, ↓reduceIte, Int.reduceEq, Int.reduceLE, Int.reduceLT, reduceCtorEq, and_true, and_self, true_and, or_true, true_or, or_false, false_or, and_false, false_and, ne_eq, not_true, not_false_iff]
 have hpp3 := hC98
 refine ysr <| yp 3 [] .z <| yw [36] (rM 32 c) (fun hC111 => ?_) fun hC111 => ?_
 ·have hpp4 := hC111
  refine yp 9 [] (.l (hB28.c 7) .z) <| ye <| yc (rL ((p.text).size : Int) 40) (fun hC112 => ?_) fun hC112 => ?_
  ·have hpp5 := hC112
   refine x_region <| yp 3 [] (.l (hB28.c 7) .z) <| yo (yB [uX c] 5 1 fun w113 b114 hb115 hz116 hB117 hc118 => ?_)
   have hlo119 : w.heap.size ≤ b114 := by rw [hb115]; exact Ch.size hu26
   have hu120 := Up.step hu26 hc118 iZ
   have hp121 := hp27.ch hc118 iZ
   have hB122 := hB28.ch hc118 id
   have hB123 := hB23.ch hc118 id
   refine yo (e_bytes (some ⟨b114, 0, none⟩) 1 1 [c] (some 46) (by kernel_rfl) (Rd.all hB117) rfl ?_)
   refine yp 7 [] (.p (q := (p.text).size + ((bytesOf [c])).size ≤ 9223372036854775807) (by simp only [bytesOf_one]; omega) .z) <| yo (yS hB122 fun w124 hB125 hc126 => ?_)
   have hu127 := Up.step hu120 hc126 (fun i hi (h : i = b11) => by omega)
   have hp128 := hp121.ch hc126 (fun b hb (e : b = b11) => by have := (hP.2.2.2 b hb).2; have := hlo16; omega)
   have hB129 := hB123.ch hc126 (fun (h : b20 = b11) => by have := hB14.lt; omega)
   replace hB125 : Blk w124 b11 [iX p.state, uX p.utf.b0, uX p.utf.b1, uX p.utf.b2, iX p.utf.n, .string p.marks, .slice (po.map at0) pn pc, .string (p.text ++ (bytesOf [c])), iX p.within] _ := Blk.to hB125 (by kernel_rfl)
   refine yE (nB (nS ?_))
   refine ysr <| yp 1 [] (.a (hB125.cs 0 9) .z) <| yo (yS hB129 fun w131 hB132 hc133 => ?_)
   have hu134 := Up.step hu127 hc133 (fun i hi (h : i = b20) => by omega)
   have hp135 := hp128.ch hc133 (fun b hb (e : b = b20) => by have := (hP.2.2.2 b hb).2; have := hlo25; omega)
   replace hB132 : Blk w131 b20 [iX p.state, uX p.utf.b0, uX p.utf.b1, uX p.utf.b2, iX p.utf.n, .string p.marks, .slice (po.map at0) pn pc, .string (p.text ++ (bytesOf [c])), iX p.within] _ := Blk.to hB132 (by kernel_rfl)
   refine yp 3 [] .z <| ye <| x_ret (yR2 [.agg #[iX p.state, uX p.utf.b0, uX p.utf.b1, uX p.utf.b2, iX p.utf.n, .string p.marks, .slice (po.map at0) pn pc, .string (p.text ++ (bytesOf [c])), iX p.within], .slice none 0 0] (.a (hB132.cs 0 9) .z) ?_)
   refine Fed.mk' (p' := (PS.mk p.state ⟨p.utf.b0, p.utf.b1, p.utf.b2, p.utf.n⟩ p.marks p.params (p.text ++ (bytesOf [c])) p.within)) (l := []) po pn pc none 0 0 (.inl ⟨rfl, rfl, rfl, rfl⟩) rfl (hp135.old) (ActsAt.nil _ _) (Up.ch hu134) ?_
   simp only [stringP, atP, hpp0, hpp1, hpp2, hpp3, hpp4, hpp5, ↓reduceIte, Int.reduceEq, Int.reduceLE, Int.reduceLT, reduceCtorEq, and_true, and_self, true_and, or_true, true_or, or_false, false_or, and_false, false_and, ne_eq, not_true, not_false_iff]
  have hpp5 := hC112
  refine x_skip (nB (nS ?_))
  refine ysr <| yp 1 [] (.a (hB28.cs 0 9) .z) <| yo (yS hB23 fun w138 hB139 hc140 => ?_)
  have hu141 := Up.step hu26 hc140 (fun i hi (h : i = b20) => by omega)
  have hp142 := hp27.ch hc140 (fun b hb (e : b = b20) => by have := (hP.2.2.2 b hb).2; have := hlo25; omega)
  replace hB139 : Blk w138 b20 [iX p.state, uX p.utf.b0, uX p.utf.b1, uX p.utf.b2, iX p.utf.n, .string p.marks, .slice (po.map at0) pn pc, .string p.text, iX p.within] _ := Blk.to hB139 (by kernel_rfl)
  refine yp 3 [] .z <| ye <| x_ret (yR2 [.agg #[iX p.state, uX p.utf.b0, uX p.utf.b1, uX p.utf.b2, iX p.utf.n, .string p.marks, .slice (po.map at0) pn pc, .string p.text, iX p.within], .slice none 0 0] (.a (hB139.cs 0 9) .z) ?_)
  refine Fed.mk' (p' := (PS.mk p.state ⟨p.utf.b0, p.utf.b1, p.utf.b2, p.utf.n⟩ p.marks p.params p.text p.within)) (l := []) po pn pc none 0 0 (.inl ⟨rfl, rfl, rfl, rfl⟩) rfl (hp142.old) (ActsAt.nil _ _) (Up.ch hu141) ?_
  simp only [stringP, atP, hpp0, hpp1, hpp2, hpp3, hpp4, hpp5, ↓reduceIte, Int.reduceEq, Int.reduceLE, Int.reduceLT, reduceCtorEq, and_true, and_self, true_and, or_true, true_or, or_false, false_or, and_false, false_and, ne_eq, not_true, not_false_iff]
 have hpp4 := hC111
 refine yp 9 [] .z <| ye <| ycf <| x_skip (nB (nS ?_))
 refine ysr <| yp 1 [] (.a (hB28.cs 0 9) .z) <| yo (yS hB23 fun w144 hB145 hc146 => ?_)
 have hu147 := Up.step hu26 hc146 (fun i hi (h : i = b20) => by omega)
 have hp148 := hp27.ch hc146 (fun b hb (e : b = b20) => by have := (hP.2.2.2 b hb).2; have := hlo25; omega)
 replace hB145 : Blk w144 b20 [iX p.state, uX p.utf.b0, uX p.utf.b1, uX p.utf.b2, iX p.utf.n, .string p.marks, .slice (po.map at0) pn pc, .string p.text, iX p.within] _ := Blk.to hB145 (by kernel_rfl)
 refine yp 3 [] .z <| ye <| x_ret (yR2 [.agg #[iX p.state, uX p.utf.b0, uX p.utf.b1, uX p.utf.b2, iX p.utf.n, .string p.marks, .slice (po.map at0) pn pc, .string p.text, iX p.within], .slice none 0 0] (.a (hB145.cs 0 9) .z) ?_)
 refine Fed.mk' (p' := (PS.mk p.state ⟨p.utf.b0, p.utf.b1, p.utf.b2, p.utf.n⟩ p.marks p.params p.text p.within)) (l := []) po pn pc none 0 0 (.inl ⟨rfl, rfl, rfl, rfl⟩) rfl (hp148.old) (ActsAt.nil _ _) (Up.ch hu147) ?_
 simp only [stringP, atP, hpp0, hpp1, hpp2, hpp3, hpp4, ↓reduceIte, Int.reduceEq, Int.reduceLE, Int.reduceLT, reduceCtorEq, and_true, and_self, true_and, or_true, true_or, or_false, false_or, and_false, false_and, ne_eq, not_true, not_false_iff]
set_option maxHeartbeats 4000000 in
theorem csi_any {w : World} {po : Option Nat} {pn pc : Nat} {p : PS} (hP : IntsAt w .i64 po pn pc p.params (fun b => po = some b)) (c : Int) (hc8 : 0 ≤ c ∧ c ≤ 255) (ht : p.marks.size ≤ 1000) (hn : pn ≤ 8) (hpb : ∀ x ∈ p.params, 0 ≤ x ∧ x ≤ 9999) : Calls Tryz.prog 48 [.agg #[iX p.state, uX p.utf.b0, uX p.utf.b1, uX p.utf.b2, iX p.utf.n, .string p.marks, .slice (po.map at0) pn pc, .string p.text, iX p.within], uX c].toArray w fun e w' => Fed w w' e po (csiP p c).1 (csiP p c).2 := by
 have hPn := hP.2.1
 have hlb := lastI_bd hpb
 refine yA Tryz.func48 rfl <| ysr <| yo (yN [iX p.state, uX p.utf.b0, uX p.utf.b1, uX p.utf.b2, iX p.utf.n, .string p.marks, .slice (po.map at0) pn pc, .string p.text, iX p.within] 54 fun w10 b11 hb12 hz13 hB14 hc15 => ?_)
 have hlo16 : w.heap.size ≤ b11 := by rw [hb12]; exact Ch.size (Up.refl w.heap.size w)
 have hu17 := Up.step (Up.refl w.heap.size w) hc15 iZ
 have hp18 := hP.ch hc15 iZ
 refine yo (yN [iX 0, uX 0, uX 0, uX 0, iX 0, .string ByteArray.empty, .slice none 0 0, .string ByteArray.empty, iX 0] 54 fun w19 b20 hb21 hz22 hB23 hc24 => ?_)
 have hlo25 : w.heap.size ≤ b20 := by rw [hb21]; exact Ch.size hu17
 have hu26 := Up.step hu17 hc24 iZ
 have hp27 := hp18.ch hc24 iZ
 have hB28 := hB14.ch hc24 id
 refine yp 3 [] .z <| ye <| ys <| x_block <| ysr <| yp 3 [] .z <| yw [18] (rM 48 c) (fun hC29 => ?_) fun hC29 => ?_
 ·have hpp0 := hC29
  refine yp 7 [] .z <| ye <| yc (rM c 57) (fun hC30 => ?_) fun hC30 => ?_
  ·have hpp1 := hC30
   refine ysr <| yp 1 [] (.a (hB28.cs 0 9) .z) <| yo (yC (psome_any hp27 (by omega)) ?_)
   rintro _ w37 ⟨sb31, sn32, sc33, rfl, ho34, hlo35, hc36⟩
   refine ⟨_, rfl, ?_⟩
   have hlo35w : w.heap.size ≤ sb31 := Nat.le_trans (Ch.size hu26) hlo35
   have hd38 : Df b11 sb31 := (show ¬ b11 = sb31 by have := hB28.lt; omega)
   have hd39 : Df b20 sb31 := (show ¬ b20 = sb31 by have := hB23.lt; omega)
   have hu40 := Up.step hu26 hc36 iZ
   have hB42 := hB28.ch hc36 id
   have hB43 := hB23.ch hc36 id
   have ho34l : (someL p.params).length = sn32 := by have := ho34.1; rw [List.length_map] at this; omega
   have ho34m := someL_len p.params
   refine yp 3 [] .z <| ye <| ysr <| yp 17 [12] (.q6 (((sn32 : Nat) : Int) - 1) (.q6 (((sn32 : Nat) : Int) - 1) (.i (((sn32 : Nat) : Int) - 1) (sn32) (.l (o := (0 + ((((sn32 : Nat) : Int) - 1)).toNat * 1)) (ints_last ho34 (by omega)) (.q6 (10 * (lastI (someL p.params))) (.p (q := InR .u8 (c - 48)) (in8 (by omega) (by omega)) (.q6 (c - 48) (.q6 ((10 * (lastI (someL p.params))) + (c - 48)) (.i (((sn32 : Nat) : Int) - 1) (sn32) .z))))))))) ?_
   obtain ⟨rr47, hrr48, hbb49⟩ := ho34.2.2.2.2 _ rfl
   refine yo (e_store (0 + ((((sn32 : Nat) : Int) - 1) : Int).toNat * 1) [iX (min (((10 * (lastI (someL p.params))) + (c - 48)) : Int) 9999)] none (by kernel_rfl) hbb49 (by simp only [List.length_append, List.length_map, List.length_cons, List.length_nil]; omega) ?_)
   intro w44 hB45 hc46
   have ho50 := ints_setlast (x := (min (((10 * (lastI (someL p.params))) + (c - 48)) : Int) 9999)) ho34 hrr48 (by omega) hB45
   have hu51 := Up.step hu40 hc46 (fun i hi (h : i = sb31) => by omega)
   have hB53 := hB42.ch hc46 hd38
   have hB54 := hB43.ch hc46 hd39
   refine ye <| x_region <| yp 2 [] .z <| yo (yS hB53 fun w55 hB56 hc57 => ?_)
   have hu58 := Up.step hu51 hc57 (fun i hi (h : i = b11) => by omega)
   have hB60 := hB54.ch hc57 (fun (h : b20 = b11) => by have := hB14.lt; omega)
   have ho61 := ho50.ch hc57 (fun b e => by cases e; exact (fun h => hd38 h.symm))
   replace hB56 : Blk w55 b11 [iX p.state, uX p.utf.b0, uX p.utf.b1, uX p.utf.b2, iX p.utf.n, .string p.marks, .slice (some ⟨sb31, 0, none⟩) sn32 sc33, .string p.text, iX p.within] _ := Blk.to hB56 (by kernel_rfl)
   refine yE (nB (nS ?_))
   refine ysr <| yp 1 [] (.a (hB56.cs 0 9) .z) <| yo (yS hB60 fun w62 hB63 hc64 => ?_)
   have hu65 := Up.step hu58 hc64 (fun i hi (h : i = b20) => by omega)
   have ho67 := ho61.ch hc64 (fun b e => by cases e; exact (fun h => hd39 h.symm))
   replace hB63 : Blk w62 b20 [iX p.state, uX p.utf.b0, uX p.utf.b1, uX p.utf.b2, iX p.utf.n, .string p.marks, .slice (some ⟨sb31, 0, none⟩) sn32 sc33, .string p.text, iX p.within] _ := Blk.to hB63 (by kernel_rfl)
   refine yp 3 [] .z <| ye <| x_ret (yR2 [.agg #[iX p.state, uX p.utf.b0, uX p.utf.b1, uX p.utf.b2, iX p.utf.n, .string p.marks, .slice (some ⟨sb31, 0, none⟩) sn32 sc33, .string p.text, iX p.within], .slice none 0 0] (.a (hB63.cs 0 9) .z) ?_)
   refine Fed.mk' (p' := (PS.mk p.state ⟨p.utf.b0, p.utf.b1, p.utf.b2, p.utf.n⟩ p.marks (setLast (someL p.params) (min (((10 * (lastI (someL p.params))) + (c - 48)) : Int) 9999)) p.text p.within)) (l := []) (some sb31) sn32 sc33 none 0 0 (.inl ⟨rfl, rfl, rfl, rfl⟩) rfl ((ints_own ho67 ⟨by have := Ch.size hu65; omega, ho67.lt⟩).or) (ActsAt.nil _ _) (Up.ch hu65) ?_
   simp only [csiP, atP, hpp0, hpp1, ho34l, ↓reduceIte, Int.reduceEq, Int.reduceLE, Int.reduceLT, reduceCtorEq, and_true, and_self, true_and, or_true, true_or, or_false, false_or, and_false, false_and, ne_eq, not_true, not_false_iff]
  have hpp1 := hC30
  refine ysr <| yp 3 [] .z <| ye <| yc (rE c 59) (fun hC69 => ?_) fun hC69 => ?_
  ·have hpp2 := hC69
   refine ysr <| yp 1 [] (.a (hB28.cs 0 9) .z) <| yo (yC (psome_any hp27 (by omega)) ?_)
   rintro _ w76 ⟨sb70, sn71, sc72, rfl, ho73, hlo74, hc75⟩
   refine ⟨_, rfl, ?_⟩
   have hlo74w : w.heap.size ≤ sb70 := Nat.le_trans (Ch.size hu26) hlo74
   have hd77 : Df b11 sb70 := (show ¬ b11 = sb70 by have := hB28.lt; omega)
   have hd78 : Df b20 sb70 := (show ¬ b20 = sb70 by have := hB23.lt; omega)
   have hu79 := Up.step hu26 hc75 iZ
   have hB81 := hB28.ch hc75 id
   have hB82 := hB23.ch hc75 id
   have ho73l : (someL p.params).length = sn71 := by have := ho73.1; rw [List.length_map] at this; omega
   have ho73m := someL_len p.params
   refine yp 3 [] .z <| ye <| ys <| ysr <| yp 3 [] .z <| ye <| yc (rL ((sn71 : Nat) : Int) 8) (fun hC83 => ?_) fun hC83 => ?_
   ·have hpp3 := hC83
    refine x_region <| yp 1 [] .z <| yo (yB [iX 0] 3 1 fun w84 b85 hb86 hz87 hB88 hc89 => ?_)
    have hlo90 : w.heap.size ≤ b85 := by rw [hb86]; exact Ch.size hu79
    have hu91 := Up.step hu79 hc89 iZ
    have hB93 := hB81.ch hc89 id
    have hB94 := hB82.ch hc89 id
    have ho95 := ho73.ch hc89 (fun b e => by cases e; exact id)
    refine yo (e_app' 3 1 8 (some sb70) sn71 sc72 ((someL p.params).map (Value.int .i64)) (some ⟨b85, 0, none⟩) 1 1 [iX 0] (some 53) (sn71 + 1) rfl (((someL p.params) ++ [0]).map (Value.int .i64)) (by rw [List.map_append]; rfl) (by kernel_rfl) ho95 (Rd.all hB88) rfl rfl (fun h => by cases h) (by constructor <;> first | omega | (simp only [maxLen]; omega)) ?_)
    intro w96 og97 cp98 hO99 hne100 hpos101 hc102
    obtain ⟨ng103, rfl⟩ : ∃ b, og97 = some b := hpos101 (by omega)
    replace hc102 := ch_some hc102
    have hd104 : Df b11 ng103 := app_ne hne100 (fun h => hd77 (Option.some.inj h).symm) hB93.lt
    have hd105 : Df b20 ng103 := app_ne hne100 (fun h => hd78 (Option.some.inj h).symm) hB94.lt
    have hlong103 : w.heap.size ≤ ng103 := new_le hne100 (by omega) (Ch.size hu91)
    have hu106 := Up.step hu91 hc102 (fun i hi (h : i = sb70) => by omega)
    have hB108 := hB93.ch hc102 hd77
    have hB109 := hB94.ch hc102 hd78
    refine yp 4 [] .z <| ye <| x_region <| yp 2 [] .z <| yo (yS hB108 fun w110 hB111 hc112 => ?_)
    have hu113 := Up.step hu106 hc112 (fun i hi (h : i = b11) => by omega)
    have hB115 := hB109.ch hc112 (fun (h : b20 = b11) => by have := hB14.lt; omega)
    have ho116 := hO99.ch hc112 (fun b e => by cases e; exact (fun h => hd104 h.symm))
    replace hB111 : Blk w110 b11 [iX p.state, uX p.utf.b0, uX p.utf.b1, uX p.utf.b2, iX p.utf.n, .string p.marks, .slice (some ⟨ng103, 0, none⟩) (sn71 + 1) cp98, .string p.text, iX p.within] _ := Blk.to hB111 (by kernel_rfl)
    refine yE (nB (nS ?_))
    refine ysr <| yp 1 [] (.a (hB111.cs 0 9) .z) <| yo (yS hB115 fun w117 hB118 hc119 => ?_)
    have hu120 := Up.step hu113 hc119 (fun i hi (h : i = b20) => by omega)
    have ho122 := ho116.ch hc119 (fun b e => by cases e; exact (fun h => hd105 h.symm))
    replace hB118 : Blk w117 b20 [iX p.state, uX p.utf.b0, uX p.utf.b1, uX p.utf.b2, iX p.utf.n, .string p.marks, .slice (some ⟨ng103, 0, none⟩) (sn71 + 1) cp98, .string p.text, iX p.within] _ := Blk.to hB118 (by kernel_rfl)
    refine yp 3 [] .z <| ye <| x_ret (yR2 [.agg #[iX p.state, uX p.utf.b0, uX p.utf.b1, uX p.utf.b2, iX p.utf.n, .string p.marks, .slice (some ⟨ng103, 0, none⟩) (sn71 + 1) cp98, .string p.text, iX p.within], .slice none 0 0] (.a (hB118.cs 0 9) .z) ?_)
    refine Fed.mk' (p' := (PS.mk p.state ⟨p.utf.b0, p.utf.b1, p.utf.b2, p.utf.n⟩ p.marks ((someL p.params) ++ [0]) p.text p.within)) (l := []) (some ng103) (sn71 + 1) cp98 none 0 0 (.inl ⟨rfl, rfl, rfl, rfl⟩) rfl ((ints_own ho122 ⟨by have := Ch.size hu120; omega, ho122.lt⟩).or) (ActsAt.nil _ _) (Up.ch hu120) ?_
    simp only [csiP, atP, hpp0, hpp1, hpp2, hpp3, ho73l, ↓reduceIte, Int.reduceEq, Int.reduceLE, Int.reduceLT, reduceCtorEq, and_true, and_self, true_and, or_true, true_or, or_false, false_or, and_false, false_and, ne_eq, not_true, not_false_iff]
   have hpp3 := hC83
   refine yk <| x_region <| yp 2 [] .z <| yo (yS hB81 fun w124 hB125 hc126 => ?_)
   have hu127 := Up.step hu79 hc126 (fun i hi (h : i = b11) => by omega)
   have hB129 := hB82.ch hc126 (fun (h : b20 = b11) => by have := hB14.lt; omega)
   have ho130 := ho73.ch hc126 (fun b e => by cases e; exact (fun h => hd77 h.symm))
   replace hB125 : Blk w124 b11 [iX p.state, uX p.utf.b0, uX p.utf.b1, uX p.utf.b2, iX p.utf.n, .string p.marks, .slice (some ⟨sb70, 0, none⟩) sn71 sc72, .string p.text, iX p.within] _ := Blk.to hB125 (by kernel_rfl)
   refine yE (nB (nS ?_))
   refine ysr <| yp 1 [] (.a (hB125.cs 0 9) .z) <| yo (yS hB129 fun w131 hB132 hc133 => ?_)
   have hu134 := Up.step hu127 hc133 (fun i hi (h : i = b20) => by omega)
   have ho136 := ho130.ch hc133 (fun b e => by cases e; exact (fun h => hd78 h.symm))
   replace hB132 : Blk w131 b20 [iX p.state, uX p.utf.b0, uX p.utf.b1, uX p.utf.b2, iX p.utf.n, .string p.marks, .slice (some ⟨sb70, 0, none⟩) sn71 sc72, .string p.text, iX p.within] _ := Blk.to hB132 (by kernel_rfl)
   refine yp 3 [] .z <| ye <| x_ret (yR2 [.agg #[iX p.state, uX p.utf.b0, uX p.utf.b1, uX p.utf.b2, iX p.utf.n, .string p.marks, .slice (some ⟨sb70, 0, none⟩) sn71 sc72, .string p.text, iX p.within], .slice none 0 0] (.a (hB132.cs 0 9) .z) ?_)
   refine Fed.mk' (p' := (PS.mk p.state ⟨p.utf.b0, p.utf.b1, p.utf.b2, p.utf.n⟩ p.marks (someL p.params) p.text p.within)) (l := []) (some sb70) sn71 sc72 none 0 0 (.inl ⟨rfl, rfl, rfl, rfl⟩) rfl ((ints_own ho136 ⟨by have := Ch.size hu134; omega, ho136.lt⟩).or) (ActsAt.nil _ _) (Up.ch hu134) ?_
   simp only [csiP, atP, hpp0, hpp1, hpp2, hpp3, ho73l, ↓reduceIte, Int.reduceEq, Int.reduceLE, Int.reduceLT, reduceCtorEq, and_true, and_self, true_and, or_true, true_or, or_false, false_or, and_false, false_and, ne_eq, not_true, not_false_iff]
  have hpp2 := hC69
  refine ysr <| yp 3 [] .z <| ye <| yc (rM 64 c) (fun hC138 => ?_) fun hC138 => ?_
  ·have hpp3 := hC138
   refine ys <| ysr <| yp 3 [] (.l (hB28.c 0) .z) <| ye <| yc (rE p.state 4) (fun hC139 => ?_) fun hC139 => ?_
   ·have hpp4 := hC139
    refine ysr <| yo (yQ (pat_any 0 _) fun w141 hc140 => ?_)
    have hu142 := Up.step hu26 hc140 iZ
    have hB145 := hB23.ch hc140 id
    refine yo (yS hB145 fun w146 hB147 hc148 => ?_)
    have hu149 := Up.step hu142 hc148 (fun i hi (h : i = b20) => by omega)
    replace hB147 : Blk w146 b20 [iX 0, uX 0, uX 0, uX 0, iX 0, .string ByteArray.empty, .slice none 0 0, .string ByteArray.empty, iX 0] _ := Blk.to hB147 (by kernel_rfl)
    refine yp 3 [] .z <| ye <| x_ret (rS (rB (rS (yR2 [.agg #[iX 0, uX 0, uX 0, uX 0, iX 0, .string ByteArray.empty, .slice none 0 0, .string ByteArray.empty, iX 0], .slice none 0 0] (.a (hB147.cs 0 9) .z) ?_))))
    refine Fed.mk' (p' := (PS.mk 0 ⟨0, 0, 0, 0⟩ ByteArray.empty [] ByteArray.empty 0)) (l := []) none 0 0 none 0 0 (.inl ⟨rfl, rfl, rfl, rfl⟩) rfl (IntsAt.nil _ _ _) (ActsAt.nil _ _) (Up.ch hu149) ?_
    simp only [csiP, atP, hpp0, hpp1, hpp2, hpp3, hpp4, ↓reduceIte, Int.reduceEq, Int.reduceLE, Int.reduceLT, reduceCtorEq, and_true, and_self, true_and, or_true, true_or, or_false, false_or, and_false, false_and, ne_eq, not_true, not_false_iff]
   have hpp4 := hC139
   refine yk <| ys <| x_drawnB (fun k => k = b20) [8] (by kernel_rfl) (fun w152 hH153 hc154 => ?_)
   have hu155 := Up.step hu26 hc154 iZ
   have hp156 := hp27.ch hc154 iZ
   have hB157 := hB28.ch hc154 id
   have hB158 := hB23.ch hc154 id
   refine ydC (uL 1 5) [] (fun u hu => (.l (cell_ch hu (hB157.c 5) (fun (h : b11 = b20) => by have := hB14.lt; omega)) (.l (cell_ch hu (hB157.c 6) (fun (h : b11 = b20) => by have := hB14.lt; omega)) .z))) <| yH 0 (yQ (pat_any 0 _) fun w160 hc159 => ?_)
   have hu161 := Up.step hu155 hc159 iZ
   have hp162 := hp156.ch hc159 iZ
   have hB163 := hB157.ch hc159 id
   have hB164 := hB158.ch hc159 id
   refine x_heldB hc159 eZ ?_
   refine yH 6 (e_app' 3 1 8 none 0 0 [] (po.map at0) pn pc (p.params.map (Value.int .i64)) (some 69) pn (Nat.zero_add _) (p.params.map (Value.int .i64)) rfl (by kernel_rfl) (Own.nil _ _ _) hp162.1 (by rw [List.length_map, hp162.2.1, Nat.mul_one]) (ints_one _) (fun h => hp162.2.2.1 (by cases po <;> simp_all)) (by constructor <;> first | omega | (simp only [maxLen]; omega)) ?_)
   intro w165 og166 cp167 hO168 hne169 hpos170 hc171
   replace hc171 := ch_none hc171
   have hlo172 : ∀ b, og166 = some b → w.heap.size ≤ b := fun b e => by
    rcases hne169 with h | ⟨g', h, h'⟩
    ·rw [h] at e; cases e
    rw [h] at e; have := Option.some.inj e; have := Ch.size hu161; omega
   have hu173 := Up.step hu161 hc171 iZ
   have hB176 := hB164.ch hc171 id
   have hold177 : ¬ og166 = some b11 := fun e => by
    rcases hne169 with h | ⟨g', h, h'⟩
    ·rw [h] at e; cases e
    rw [h] at e; have := Option.some.inj e; have := hB163.lt; omega
   have hold178 : ¬ og166 = some b20 := fun e => by
    rcases hne169 with h | ⟨g', h, h'⟩
    ·rw [h] at e; cases e
    rw [h] at e; have := Option.some.inj e; have := hB164.lt; omega
   refine x_heldB hc171 eZ <| ydC [7] [] (fun u hu => .z) <| x_dtwo 8 9 (by kernel_rfl) (by decide) ?_ ?_
   ·refine x_skill 8 _ (by kernel_rfl) rfl (yB [iX 3, rX 0, uX c, .string p.marks, .slice (og166.map at0) pn cp167, .string ByteArray.empty] 78 1 fun w179 b180 hb181 hz182 hB183 hc184 => ?_)
    have hlo185 : w.heap.size ≤ b180 := by rw [hb181]; exact Ch.size hu173
    have hu186 := Up.step hu173 hc184 iZ
    have hB189 := hB176.ch hc184 id
    have ho190 := hO168.ch hc184 iZ
    refine x_killedB (B := fun k => k = b20) <| yH 9 (yS hB189 fun w191 hB192 hc193 => ?_)
    have hu194 := Up.step hu186 hc193 (fun i hi (h : i = b20) => by omega)
    have ho197 := ho190.ch hc193 (fun b e (h : b = b20) => hold178 (h ▸ e))
    have hB198 := hB183.ch hc193 (fun (h : b180 = b20) => by have := hB176.lt; omega)
    replace hB192 : Blk w191 b20 [iX 0, uX 0, uX 0, uX 0, iX 0, .string ByteArray.empty, .slice none 0 0, .string ByteArray.empty, iX 0] _ := Blk.to hB192 (by kernel_rfl)
    refine x_heldB hc193 iZ <| ydC [10] [] (fun u hu => .z) <| yDe (nS ?_)
    refine x_ret (rB (rS (yR2 [.agg #[iX 0, uX 0, uX 0, uX 0, iX 0, .string ByteArray.empty, .slice none 0 0, .string ByteArray.empty, iX 0], .slice (some ⟨b180, 0, none⟩) 1 1] (.a (hB192.cs 0 9) .z) ?_)))
    refine Fed.mk' (p' := (PS.mk 0 ⟨0, 0, 0, 0⟩ ByteArray.empty [] ByteArray.empty 0)) (l := [Ac.mk 3 0 c p.marks p.params ByteArray.empty]) none 0 0 (some b180) 1 1 (.inr (fun b h => by cases h)) rfl (IntsAt.nil _ _ _) (ActsAt.one hB198 ⟨by have := Ch.size hu194; omega, hB198.lt⟩ ⟨og166, pn, cp167, rfl, (ints_own' ho197 (fun b e => hlo172 b e))⟩) (Up.ch hu194) ?_
    simp only [csiP, atP, hpp0, hpp1, hpp2, hpp3, hpp4, ↓reduceIte, Int.reduceEq, Int.reduceLE, Int.reduceLT, reduceCtorEq, and_true, and_self, true_and, or_true, true_or, or_false, false_or, and_false, false_and, ne_eq, not_true, not_false_iff]
   refine x_seff 9 _ (by kernel_rfl) rfl (yS hB176 fun w199 hB200 hc201 => ?_)
   have hu202 := Up.step hu173 hc201 (fun i hi (h : i = b20) => by omega)
   have ho205 := hO168.ch hc201 (fun b e (h : b = b20) => hold178 (h ▸ e))
   replace hB200 : Blk w199 b20 [iX 0, uX 0, uX 0, uX 0, iX 0, .string ByteArray.empty, .slice none 0 0, .string ByteArray.empty, iX 0] _ := Blk.to hB200 (by kernel_rfl)
   refine x_heldB hc201 iZ <| yK 8 (yB [iX 3, rX 0, uX c, .string p.marks, .slice (og166.map at0) pn cp167, .string ByteArray.empty] 78 1 fun w206 b207 hb208 hz209 hB210 hc211 => ?_)
   have hlo212 : w.heap.size ≤ b207 := by rw [hb208]; exact Ch.size hu202
   have hu213 := Up.step hu202 hc211 iZ
   have ho216 := ho205.ch hc211 iZ
   have hB217 := hB200.ch hc211 id
   refine x_killed <| yd [10] [] .z <| yDe (nS ?_)
   refine x_ret (rB (rS (yR2 [.agg #[iX 0, uX 0, uX 0, uX 0, iX 0, .string ByteArray.empty, .slice none 0 0, .string ByteArray.empty, iX 0], .slice (some ⟨b207, 0, none⟩) 1 1] (.a (hB217.cs 0 9) .z) ?_)))
   refine Fed.mk' (p' := (PS.mk 0 ⟨0, 0, 0, 0⟩ ByteArray.empty [] ByteArray.empty 0)) (l := [Ac.mk 3 0 c p.marks p.params ByteArray.empty]) none 0 0 (some b207) 1 1 (.inr (fun b h => by cases h)) rfl (IntsAt.nil _ _ _) (ActsAt.one hB210 ⟨by have := Ch.size hu213; omega, hB210.lt⟩ ⟨og166, pn, cp167, rfl, (ints_own' ho216 (fun b e => hlo172 b e))⟩) (Up.ch hu213) ?_
   simp only [csiP, atP, hpp0, hpp1, hpp2, hpp3, hpp4, ↓reduceIte, Int.reduceEq, Int.reduceLE, Int.reduceLT, reduceCtorEq, and_true, and_self, true_and, or_true, true_or, or_false, false_or, and_false, false_and, ne_eq, not_true, not_false_iff]
  have hpp3 := hC138
  refine ysr <| yp 5 [] (.l (hB28.c 5) .z) <| yw [77] (rE ((p.marks).size : Int) 2) (fun hC218 => ?_) fun hC218 => ?_
  ·have hpp4 := hC218
   refine yp 9 [] .z <| ye <| yct <| x_region <| yp 1 [] .z <| yo (yS hB28 fun w219 hB220 hc221 => ?_)
   have hu222 := Up.step hu26 hc221 (fun i hi (h : i = b11) => by omega)
   have hp223 := hp27.ch hc221 (fun b hb (e : b = b11) => by have := (hP.2.2.2 b hb).2; have := hlo16; omega)
   have hB224 := hB23.ch hc221 (fun (h : b20 = b11) => by have := hB14.lt; omega)
   replace hB220 : Blk w219 b11 [iX 4, uX p.utf.b0, uX p.utf.b1, uX p.utf.b2, iX p.utf.n, .string p.marks, .slice (po.map at0) pn pc, .string p.text, iX p.within] _ := Blk.to hB220 (by kernel_rfl)
   refine yE (nB (nS ?_))
   refine ysr <| yp 1 [] (.a (hB220.cs 0 9) .z) <| yo (yS hB224 fun w225 hB226 hc227 => ?_)
   have hu228 := Up.step hu222 hc227 (fun i hi (h : i = b20) => by omega)
   have hp229 := hp223.ch hc227 (fun b hb (e : b = b20) => by have := (hP.2.2.2 b hb).2; have := hlo25; omega)
   replace hB226 : Blk w225 b20 [iX 4, uX p.utf.b0, uX p.utf.b1, uX p.utf.b2, iX p.utf.n, .string p.marks, .slice (po.map at0) pn pc, .string p.text, iX p.within] _ := Blk.to hB226 (by kernel_rfl)
   refine yp 3 [] .z <| ye <| x_ret (yR2 [.agg #[iX 4, uX p.utf.b0, uX p.utf.b1, uX p.utf.b2, iX p.utf.n, .string p.marks, .slice (po.map at0) pn pc, .string p.text, iX p.within], .slice none 0 0] (.a (hB226.cs 0 9) .z) ?_)
   refine Fed.mk' (p' := (PS.mk 4 ⟨p.utf.b0, p.utf.b1, p.utf.b2, p.utf.n⟩ p.marks p.params p.text p.within)) (l := []) po pn pc none 0 0 (.inl ⟨rfl, rfl, rfl, rfl⟩) rfl (hp229.old) (ActsAt.nil _ _) (Up.ch hu228) ?_
   simp only [csiP, atP, hpp0, hpp1, hpp2, hpp3, hpp4, ↓reduceIte, Int.reduceEq, Int.reduceLE, Int.reduceLT, reduceCtorEq, and_true, and_self, true_and, or_true, true_or, or_false, false_or, and_false, false_and, ne_eq, not_true, not_false_iff]
  have hpp4 := hC218
  refine yp 9 [] .z <| ye <| yc (rE c 58) (fun hC231 => ?_) fun hC231 => ?_
  ·have hpp5 := hC231
   refine x_region <| yp 1 [] .z <| yo (yS hB28 fun w232 hB233 hc234 => ?_)
   have hu235 := Up.step hu26 hc234 (fun i hi (h : i = b11) => by omega)
   have hp236 := hp27.ch hc234 (fun b hb (e : b = b11) => by have := (hP.2.2.2 b hb).2; have := hlo16; omega)
   have hB237 := hB23.ch hc234 (fun (h : b20 = b11) => by have := hB14.lt; omega)
   replace hB233 : Blk w232 b11 [iX 4, uX p.utf.b0, uX p.utf.b1, uX p.utf.b2, iX p.utf.n, .string p.marks, .slice (po.map at0) pn pc, .string p.text, iX p.within] _ := Blk.to hB233 (by kernel_rfl)
   refine yE (nB (nS ?_))
   refine ysr <| yp 1 [] (.a (hB233.cs 0 9) .z) <| yo (yS hB237 fun w238 hB239 hc240 => ?_)
   have hu241 := Up.step hu235 hc240 (fun i hi (h : i = b20) => by omega)
   have hp242 := hp236.ch hc240 (fun b hb (e : b = b20) => by have := (hP.2.2.2 b hb).2; have := hlo25; omega)
   replace hB239 : Blk w238 b20 [iX 4, uX p.utf.b0, uX p.utf.b1, uX p.utf.b2, iX p.utf.n, .string p.marks, .slice (po.map at0) pn pc, .string p.text, iX p.within] _ := Blk.to hB239 (by kernel_rfl)
   refine yp 3 [] .z <| ye <| x_ret (yR2 [.agg #[iX 4, uX p.utf.b0, uX p.utf.b1, uX p.utf.b2, iX p.utf.n, .string p.marks, .slice (po.map at0) pn pc, .string p.text, iX p.within], .slice none 0 0] (.a (hB239.cs 0 9) .z) ?_)
   refine Fed.mk' (p' := (PS.mk 4 ⟨p.utf.b0, p.utf.b1, p.utf.b2, p.utf.n⟩ p.marks p.params p.text p.within)) (l := []) po pn pc none 0 0 (.inl ⟨rfl, rfl, rfl, rfl⟩) rfl (hp242.old) (ActsAt.nil _ _) (Up.ch hu241) ?_
   simp only [csiP, atP, hpp0, hpp1, hpp2, hpp3, hpp4, hpp5, ↓reduceIte, Int.reduceEq, Int.reduceLE, Int.reduceLT, reduceCtorEq, and_true, and_self, true_and, or_true, true_or, or_false, false_or, and_false, false_and, ne_eq, not_true, not_false_iff]
  have hpp5 := hC231
  refine x_region <| yp 3 [] (.l (hB28.c 5) .z) <| yo (yB [uX c] 5 1 fun w244 b245 hb246 hz247 hB248 hc249 => ?_)
  have hlo250 : w.heap.size ≤ b245 := by rw [hb246]; exact Ch.size hu26
  have hu251 := Up.step hu26 hc249 iZ
  have hp252 := hp27.ch hc249 iZ
  have hB253 := hB28.ch hc249 id
  have hB254 := hB23.ch hc249 id
  refine yo (e_bytes (some ⟨b245, 0, none⟩) 1 1 [c] (some 12) (by kernel_rfl) (Rd.all hB248) rfl ?_)
  refine yp 7 [] (.p (q := (p.marks).size + ((bytesOf [c])).size ≤ 9223372036854775807) (by simp only [bytesOf_one]; omega) .z) <| yo (yS hB253 fun w255 hB256 hc257 => ?_)
  have hu258 := Up.step hu251 hc257 (fun i hi (h : i = b11) => by omega)
  have hp259 := hp252.ch hc257 (fun b hb (e : b = b11) => by have := (hP.2.2.2 b hb).2; have := hlo16; omega)
  have hB260 := hB254.ch hc257 (fun (h : b20 = b11) => by have := hB14.lt; omega)
  replace hB256 : Blk w255 b11 [iX p.state, uX p.utf.b0, uX p.utf.b1, uX p.utf.b2, iX p.utf.n, .string (p.marks ++ (bytesOf [c])), .slice (po.map at0) pn pc, .string p.text, iX p.within] _ := Blk.to hB256 (by kernel_rfl)
  refine yE (nB (nS ?_))
  refine ysr <| yp 1 [] (.a (hB256.cs 0 9) .z) <| yo (yS hB260 fun w262 hB263 hc264 => ?_)
  have hu265 := Up.step hu258 hc264 (fun i hi (h : i = b20) => by omega)
  have hp266 := hp259.ch hc264 (fun b hb (e : b = b20) => by have := (hP.2.2.2 b hb).2; have := hlo25; omega)
  replace hB263 : Blk w262 b20 [iX p.state, uX p.utf.b0, uX p.utf.b1, uX p.utf.b2, iX p.utf.n, .string (p.marks ++ (bytesOf [c])), .slice (po.map at0) pn pc, .string p.text, iX p.within] _ := Blk.to hB263 (by kernel_rfl)
  refine yp 3 [] .z <| ye <| x_ret (yR2 [.agg #[iX p.state, uX p.utf.b0, uX p.utf.b1, uX p.utf.b2, iX p.utf.n, .string (p.marks ++ (bytesOf [c])), .slice (po.map at0) pn pc, .string p.text, iX p.within], .slice none 0 0] (.a (hB263.cs 0 9) .z) ?_)
  refine Fed.mk' (p' := (PS.mk p.state ⟨p.utf.b0, p.utf.b1, p.utf.b2, p.utf.n⟩ (p.marks ++ (bytesOf [c])) p.params p.text p.within)) (l := []) po pn pc none 0 0 (.inl ⟨rfl, rfl, rfl, rfl⟩) rfl (hp266.old) (ActsAt.nil _ _) (Up.ch hu265) ?_
  simp only [csiP, atP, hpp0, hpp1, hpp2, hpp3, hpp4, hpp5, ↓reduceIte, Int.reduceEq, Int.reduceLE, Int.reduceLT, reduceCtorEq, and_true, and_self, true_and, or_true, true_or, or_false, false_or, and_false, false_and, ne_eq, not_true, not_false_iff]
 have hpp0 := hC29
 refine yp 7 [] .z <| ye <| ycf <| ysr <| yp 3 [] .z <| ye <| yc (rE c 59) (fun hC269 => ?_) fun hC269 => ?_
 ·exfalso; omega
 have hpp1 := hC269
 refine ysr <| yp 3 [] .z <| ye <| yc (rM 64 c) (fun hC270 => ?_) fun hC270 => ?_
 ·exfalso; omega
 have hpp2 := hC270
 refine ysr <| yp 5 [] (.l (hB28.c 5) .z) <| yw [77] (rE ((p.marks).size : Int) 2) (fun hC271 => ?_) fun hC271 => ?_
 ·have hpp3 := hC271
  refine yp 9 [] .z <| ye <| yct <| x_region <| yp 1 [] .z <| yo (yS hB28 fun w272 hB273 hc274 => ?_)
  have hu275 := Up.step hu26 hc274 (fun i hi (h : i = b11) => by omega)
  have hp276 := hp27.ch hc274 (fun b hb (e : b = b11) => by have := (hP.2.2.2 b hb).2; have := hlo16; omega)
  have hB277 := hB23.ch hc274 (fun (h : b20 = b11) => by have := hB14.lt; omega)
  replace hB273 : Blk w272 b11 [iX 4, uX p.utf.b0, uX p.utf.b1, uX p.utf.b2, iX p.utf.n, .string p.marks, .slice (po.map at0) pn pc, .string p.text, iX p.within] _ := Blk.to hB273 (by kernel_rfl)
  refine yE (nB (nS ?_))
  refine ysr <| yp 1 [] (.a (hB273.cs 0 9) .z) <| yo (yS hB277 fun w278 hB279 hc280 => ?_)
  have hu281 := Up.step hu275 hc280 (fun i hi (h : i = b20) => by omega)
  have hp282 := hp276.ch hc280 (fun b hb (e : b = b20) => by have := (hP.2.2.2 b hb).2; have := hlo25; omega)
  replace hB279 : Blk w278 b20 [iX 4, uX p.utf.b0, uX p.utf.b1, uX p.utf.b2, iX p.utf.n, .string p.marks, .slice (po.map at0) pn pc, .string p.text, iX p.within] _ := Blk.to hB279 (by kernel_rfl)
  refine yp 3 [] .z <| ye <| x_ret (yR2 [.agg #[iX 4, uX p.utf.b0, uX p.utf.b1, uX p.utf.b2, iX p.utf.n, .string p.marks, .slice (po.map at0) pn pc, .string p.text, iX p.within], .slice none 0 0] (.a (hB279.cs 0 9) .z) ?_)
  refine Fed.mk' (p' := (PS.mk 4 ⟨p.utf.b0, p.utf.b1, p.utf.b2, p.utf.n⟩ p.marks p.params p.text p.within)) (l := []) po pn pc none 0 0 (.inl ⟨rfl, rfl, rfl, rfl⟩) rfl (hp282.old) (ActsAt.nil _ _) (Up.ch hu281) ?_
  simp only [csiP, atP, hpp0, hpp1, hpp2, hpp3, ↓reduceIte, Int.reduceEq, Int.reduceLE, Int.reduceLT, reduceCtorEq, and_true, and_self, true_and, or_true, true_or, or_false, false_or, and_false, false_and, ne_eq, not_true, not_false_iff]
 have hpp3 := hC271
 refine yp 9 [] .z <| ye <| yc (rE c 58) (fun hC284 => ?_) fun hC284 => ?_
 ·exfalso; omega
 have hpp4 := hC284
 refine x_region <| yp 3 [] (.l (hB28.c 5) .z) <| yo (yB [uX c] 5 1 fun w285 b286 hb287 hz288 hB289 hc290 => ?_)
 have hlo291 : w.heap.size ≤ b286 := by rw [hb287]; exact Ch.size hu26
 have hu292 := Up.step hu26 hc290 iZ
 have hp293 := hp27.ch hc290 iZ
 have hB294 := hB28.ch hc290 id
 have hB295 := hB23.ch hc290 id
 refine yo (e_bytes (some ⟨b286, 0, none⟩) 1 1 [c] (some 12) (by kernel_rfl) (Rd.all hB289) rfl ?_)
 refine yp 7 [] (.p (q := (p.marks).size + ((bytesOf [c])).size ≤ 9223372036854775807) (by simp only [bytesOf_one]; omega) .z) <| yo (yS hB294 fun w296 hB297 hc298 => ?_)
 have hu299 := Up.step hu292 hc298 (fun i hi (h : i = b11) => by omega)
 have hp300 := hp293.ch hc298 (fun b hb (e : b = b11) => by have := (hP.2.2.2 b hb).2; have := hlo16; omega)
 have hB301 := hB295.ch hc298 (fun (h : b20 = b11) => by have := hB14.lt; omega)
 replace hB297 : Blk w296 b11 [iX p.state, uX p.utf.b0, uX p.utf.b1, uX p.utf.b2, iX p.utf.n, .string (p.marks ++ (bytesOf [c])), .slice (po.map at0) pn pc, .string p.text, iX p.within] _ := Blk.to hB297 (by kernel_rfl)
 refine yE (nB (nS ?_))
 refine ysr <| yp 1 [] (.a (hB297.cs 0 9) .z) <| yo (yS hB301 fun w303 hB304 hc305 => ?_)
 have hu306 := Up.step hu299 hc305 (fun i hi (h : i = b20) => by omega)
 have hp307 := hp300.ch hc305 (fun b hb (e : b = b20) => by have := (hP.2.2.2 b hb).2; have := hlo25; omega)
 replace hB304 : Blk w303 b20 [iX p.state, uX p.utf.b0, uX p.utf.b1, uX p.utf.b2, iX p.utf.n, .string (p.marks ++ (bytesOf [c])), .slice (po.map at0) pn pc, .string p.text, iX p.within] _ := Blk.to hB304 (by kernel_rfl)
 refine yp 3 [] .z <| ye <| x_ret (yR2 [.agg #[iX p.state, uX p.utf.b0, uX p.utf.b1, uX p.utf.b2, iX p.utf.n, .string (p.marks ++ (bytesOf [c])), .slice (po.map at0) pn pc, .string p.text, iX p.within], .slice none 0 0] (.a (hB304.cs 0 9) .z) ?_)
 refine Fed.mk' (p' := (PS.mk p.state ⟨p.utf.b0, p.utf.b1, p.utf.b2, p.utf.n⟩ (p.marks ++ (bytesOf [c])) p.params p.text p.within)) (l := []) po pn pc none 0 0 (.inl ⟨rfl, rfl, rfl, rfl⟩) rfl (hp307.old) (ActsAt.nil _ _) (Up.ch hu306) ?_
 simp only [csiP, atP, hpp0, hpp1, hpp2, hpp3, hpp4, ↓reduceIte, Int.reduceEq, Int.reduceLE, Int.reduceLT, reduceCtorEq, and_true, and_self, true_and, or_true, true_or, or_false, false_or, and_false, false_and, ne_eq, not_true, not_false_iff]
end Go.Proofs.YteoejhjfbfacdaaGreatDoor.X
namespace Go.Proofs.YteoejhjfbfacdaaGreatDoor.X
open Go Go.RowKit Go.Proofs.YteoejhjfbfacdaaGreatDoor
def firstN (c : Nat) : Int :=
 if c < 128 then 240 else if c < 194 then 241 else if c < 224 then 2 else if c = 224 then 19 else if c < 237 then 3 else if c = 237 then 35 else if c < 240 then 3 else if c = 240 then 52 else if c < 244 then 4 else if c = 244 then 68 else 241
def accN (i : Nat) : Int × Int := if i = 0 then (128, 191) else if i = 1 then (160, 191) else if i = 2 then (128, 159) else if i = 3 then (144, 191) else if i = 4 then (128, 143) else (0, 0)
abbrev gFirst : Nat := 1
abbrev gAcc : Nat := 2
def UTabs (w : World) : Prop :=
 (∀ c, c < 256 → w.cell? ⟨gFirst, c, none⟩ = some (.int .u8 (firstN c))) ∧
 ∀ i, i < 16 → w.cell? ⟨gAcc, i * 2, none⟩ = some (.int .u8 (accN i).1) ∧ w.cell? ⟨gAcc, i * 2 + 1, none⟩ = some (.int .u8 (accN i).2)
theorem u_lt : gFirst < gTop ∧ gAcc < gTop := by decide
theorem utabs_ch {w w' : World} {B : Nat → Prop} (h : Ch B w w') (hT : UTabs w) (h0 : ¬ B gFirst) (h1 : ¬ B gAcc) : UTabs w' :=
 ⟨fun j hj => cell_ch h (hT.1 j hj) h0, fun j hj => ⟨cell_ch h (hT.2 j hj).1 h1, cell_ch h (hT.2 j hj).2 h1⟩⟩
theorem utab_lt {w : World} (h : UTabs w) : gFirst < w.heap.size ∧ gAcc < w.heap.size := ⟨cell_lt (h.1 0 (by decide)), cell_lt (h.2 0 (by decide)).1⟩
theorem u_first {w : World} (h : UTabs w) (x : Int) (h0 : 0 ≤ x) (h1 : x ≤ 255) : w.cell? ⟨gFirst, 0 + x.toNat * 1, none⟩ = some (.int .u8 (firstN x.toNat)) := by
 rw [Nat.zero_add, Nat.mul_one]; exact h.1 _ (by omega)
theorem u_acc {w : World} (h : UTabs w) (x : Int) (h0 : 0 ≤ x) (h1 : x ≤ 15) : w.cell? ⟨gAcc, 0 + x.toNat * 2, none⟩ = some (.int .u8 (accN x.toNat).1) ∧ w.cell? ⟨gAcc, 0 + x.toNat * 2 + 1, none⟩ = some (.int .u8 (accN x.toNat).2) := by
 rw [Nat.zero_add]; exact h.2 _ (by omega)
theorem bytes_at {w : World} {b off : Nat} {l : List Int} (h : Rd w (some ⟨b, off, none⟩) (l.map (Value.int .u8))) (k : Nat) (hk : k < l.length) : w.cell? ⟨b, off + k, none⟩ = some (.int .u8 (l.getD k 0)) := by
 refine rd_at h k _ ?_
 rw [List.getElem?_map, List.getElem?_eq_getElem hk]
 simp [List.getD, List.getElem?_eq_getElem hk]
theorem bytes_at0 {w : World} {b off : Nat} {l : List Int} (h : Rd w (some ⟨b, off, none⟩) (l.map (Value.int .u8))) (hk : 0 < l.length) : w.cell? ⟨b, off, none⟩ = some (.int .u8 (l.getD 0 0)) := bytes_at h 0 hk
theorem bitsv_u8 (op : BinOp) (a b : Int) : 0 ≤ bitsv op .u8 a b ∧ bitsv op .u8 a b ≤ 255 := by
 have key : ∀ n : Int, 0 ≤ IntKind.wrap .u8 n ∧ IntKind.wrap .u8 n ≤ 255 := fun n => by
  simp only [IntKind.wrap, IntKind.bits, IntKind.signed]
  constructor
  ·simp; omega
  ·simp; omega
 unfold bitsv
 cases op <;> exact key _
abbrev fsI (l : List Int) : Int := firstN (l.getD 0 0).toNat
abbrev szI (l : List Int) : Int := bitsv .and .u8 (fsI l) 7
abbrev rnI (l : List Int) : Int := Int.fdiv (fsI l) (2 ^ min (4 : Int).toNat (IntKind.bits .u8))
theorem first_bd : ∀ c, c < 256 → (0 ≤ firstN c ∧ firstN c ≤ 255) ∧ (0 ≤ Int.fdiv (firstN c) (2 ^ min (4 : Int).toNat (IntKind.bits .u8)) ∧ Int.fdiv (firstN c) (2 ^ min (4 : Int).toNat (IntKind.bits .u8)) ≤ 15) ∧ (0 ≤ bitsv .and .u8 (firstN c) 7 ∧ bitsv .and .u8 (firstN c) 7 ≤ 7) ∧ (firstN c < 240 → 2 ≤ bitsv .and .u8 (firstN c) 7 ∧ bitsv .and .u8 (firstN c) 7 ≤ 4) := by decide +kernel
theorem fs_bd {l : List Int} (h : ∀ x ∈ l, 0 ≤ x ∧ x ≤ 255) : (0 ≤ fsI l ∧ fsI l ≤ 255) ∧ (0 ≤ rnI l ∧ rnI l ≤ 15) ∧ (0 ≤ szI l ∧ szI l ≤ 7) ∧ (fsI l < 240 → 2 ≤ szI l ∧ szI l ≤ 4) :=
 first_bd _ (by have := getD_bd h (by decide) 0; omega)
def fullB (l : List Int) : Bool :=
 if ((l.length : Nat) : Int) = 0 then false
 else if szI l ≤ ((l.length : Nat) : Int) then true
 else if 1 < ((l.length : Nat) : Int) ∧ (l.getD 1 0 < (accN (rnI l).toNat).1 ∨ (accN (rnI l).toNat).2 < l.getD 1 0) then true
 else if 2 < ((l.length : Nat) : Int) ∧ (l.getD 2 0 < 128 ∨ 191 < l.getD 2 0) then true
 else false
abbrev shI (a k : Int) : Int := IntKind.wrap .i32 (a * 2 ^ min k.toNat (IntKind.bits .i32))
abbrev andB (a b : Int) : Int := bitsv .and .u8 a b
abbrev orR (a b : Int) : Int := bitsv .or .i32 a b
abbrev maskI (l : List Int) : Int := Int.fdiv (shI (fsI l) 31) (2 ^ min (31 : Int).toNat (IntKind.bits .i32))
def decI (l : List Int) : Int × Int :=
 if ((l.length : Nat) : Int) < 1 then (65533, 0)
 else if 240 ≤ fsI l then (orR (bitsv .andNot .i32 (l.getD 0 0) (maskI l)) (bitsv .and .i32 65533 (maskI l)), 1)
 else if ((l.length : Nat) : Int) < szI l then (65533, 1)
 else if l.getD 1 0 < (accN (rnI l).toNat).1 ∨ (accN (rnI l).toNat).2 < l.getD 1 0 then (65533, 1)
 else if szI l ≤ 2 then (orR (shI (andB (l.getD 0 0) 31) 6) (andB (l.getD 1 0) 63), 2)
 else if l.getD 2 0 < 128 ∨ 191 < l.getD 2 0 then (65533, 1)
 else if szI l ≤ 3 then (orR (orR (shI (andB (l.getD 0 0) 15) 12) (shI (andB (l.getD 1 0) 63) 6)) (andB (l.getD 2 0) 63), 3)
 else if l.getD 3 0 < 128 ∨ 191 < l.getD 3 0 then (65533, 1)
 else (orR (orR (orR (shI (andB (l.getD 0 0) 7) 18) (shI (andB (l.getD 1 0) 63) 12)) (shI (andB (l.getD 2 0) 63) 6)) (andB (l.getD 3 0) 63), 4)
def decR (l : List Int) : Int × Int := if 0 < ((l.length : Nat) : Int) ∧ l.getD 0 0 < 128 then (l.getD 0 0, 1) else decI l
theorem decR_bd {l : List Int} (h : ∀ x ∈ l, 0 ≤ x ∧ x ≤ 255) (h0 : 0 < l.length) : 1 ≤ (decR l).2 ∧ (decR l).2 ≤ ((l.length : Nat) : Int) := by
 obtain ⟨_, _, _, h4⟩ := fs_bd h
 unfold decR decI
 repeat' split
 all_goals (try dsimp only)
 all_goals omega
def itU (l : List Int) : Nat → List Int × List Int
 | 0 => ([], l)
 | k + 1 => if 0 < (itU l k).2.length ∧ fullB (itU l k).2 = true then ((itU l k).1 ++ [(decR (itU l k).2).1], (itU l k).2.drop (decR (itU l k).2).2.toNat) else itU l k
theorem itU_go {l : List Int} {k : Nat} (h1 : 0 < (itU l k).2.length) (h2 : fullB (itU l k).2 = true) : itU l (k + 1) = ((itU l k).1 ++ [(decR (itU l k).2).1], (itU l k).2.drop (decR (itU l k).2).2.toNat) := if_pos ⟨h1, h2⟩
theorem itU_stop {l : List Int} {k : Nat} (h : ¬ (0 < (itU l k).2.length ∧ fullB (itU l k).2 = true)) (j : Nat) : itU l (k + j) = itU l k := by
 induction j with
 | zero => rfl
 | succ j ih =>
  show (if 0 < (itU l (k + j)).2.length ∧ fullB (itU l (k + j)).2 = true then _ else itU l (k + j)) = itU l k
  rw [ih, if_neg h]
theorem itU_bytes {l : List Int} (h : ∀ x ∈ l, 0 ≤ x ∧ x ≤ 255) (k : Nat) : ∀ x ∈ (itU l k).2, 0 ≤ x ∧ x ≤ 255 := by
 induction k with
 | zero => exact h
 | succ k ih =>
  unfold itU
  split
  ·exact fun x hx => ih x (List.mem_of_mem_drop hx)
  ·exact ih
theorem itU_len {l : List Int} (h : ∀ x ∈ l, 0 ≤ x ∧ x ≤ 255) (k : Nat) : (itU l k).1.length ≤ k ∧ (itU l k).2.length + (itU l k).1.length ≤ l.length := by
 induction k with
 | zero => simp [itU]
 | succ k ih =>
  unfold itU
  split
  ·rename_i hc
   have := decR_bd (itU_bytes h k) hc.1
   simp only [List.length_append, List.length_cons, List.length_nil, List.length_drop]
   omega
  ·omega
theorem rd_behind {w : World} {b off cap n : Nat} {ys : List Value} (h : Rd w (some ⟨b, off, none⟩) ys) (hl : ys.length ≤ cap) : Rd w (some ⟨b, if cap = n then off else off + n * 1, none⟩) (ys.drop n) := by
 by_cases e : cap = n
 ·rw [show ys.drop n = [] from List.drop_eq_nil_of_le (by omega)]; exact Rd.nil _ _
 ·rw [if_neg e, Nat.mul_one]
  refine ⟨(fun e => by cases e), fun ad e j u hj => ?_⟩
  obtain rfl := Option.some.inj e
  have := h.2 _ rfl (n + j) u (by rw [← hj, List.getElem?_drop])
  rw [add_pl] at this ⊢
  rw [show off + n + j = off + (n + j) by omega]
  exact this
def US.pend (u : US) : List Int := [u.b0, u.b1, u.b2].take u.n.toNat
def mkU (l : List Int) : US := ⟨l.getD 0 0, l.getD 1 0, l.getD 2 0, ((l.length : Nat) : Int)⟩
def u0 : US := ⟨0, 0, 0, 0⟩
def feedU (u : US) (c : Int) : US × List Int := (mkU ((itU (u.pend ++ [c]) 4).2.take 3), (itU (u.pend ++ [c]) 4).1)
structure US.ok (u : US) : Prop where
 n : 0 ≤ u.n ∧ u.n ≤ 3
 b0 : 0 ≤ u.b0 ∧ u.b0 ≤ 255
 b1 : 0 ≤ u.b1 ∧ u.b1 ≤ 255
 b2 : 0 ≤ u.b2 ∧ u.b2 ≤ 255
theorem US.ok.pend {u : US} (h : u.ok) : ∀ x ∈ u.pend, 0 ≤ x ∧ x ≤ 255 := fun x hx => by
 have := List.mem_of_mem_take hx
 simp only [List.mem_cons, List.not_mem_nil, or_false] at this
 rcases this with rfl | rfl | rfl
 ·exact h.b0
 ·exact h.b1
 ·exact h.b2
theorem US.ok.len {u : US} (h : u.ok) : u.pend.length = u.n.toNat := by
 have := h.n
 simp [US.pend]; omega
theorem US.ok.rd {u : US} (h : u.ok) {w : World} {b : Nat} {T : TypeId} (hb : Blk w b [.int .u8 u.b0, .int .u8 u.b1, .int .u8 u.b2, .int .i64 u.n] T) : Rd w (some ⟨b, 0, none⟩) (u.pend.map (Value.int .u8)) := by
 have h1 := h.n
 refine Rd.blk hb fun j hj => ?_
 rw [List.length_map, h.len] at hj
 rw [List.getElem?_map, Nat.zero_add, US.pend, List.getElem?_take, if_pos hj]
 have : j = 0 ∨ j = 1 ∨ j = 2 := by omega
 rcases this with rfl | rfl | rfl <;> rfl
theorem mkU_cells {w : World} {b : Nat} {T : TypeId} {l : List Int} {n : Int} (h3 : l.length ≤ 3) (hn : n = ((l.length : Nat) : Int)) (hb : Blk w b (put [.int .u8 0, .int .u8 0, .int .u8 0, .int .i64 0] 0 (l.map (Value.int .u8))) T) :
  Blk w b [.int .u8 (mkU l).b0, .int .u8 (mkU l).b1, .int .u8 (mkU l).b2, .int .i64 0] T := by
 match l, h3 with
 | [], _ => exact hb
 | [_], _ => exact hb
 | [_, _], _ => exact hb
 | [_, _, _], _ => exact hb
theorem mkU_ok {l : List Int} (h : ∀ x ∈ l, 0 ≤ x ∧ x ≤ 255) (h3 : l.length ≤ 3) : (mkU l).ok :=
 ⟨⟨by simp [mkU], by simp [mkU]; omega⟩, getD_bd h (by decide) 0, getD_bd h (by decide) 1, getD_bd h (by decide) 2⟩
end Go.Proofs.YteoejhjfbfacdaaGreatDoor.X
namespace Go.Proofs.YteoejhjfbfacdaaGreatDoor.X
open Go Go.RowKit Go.Proofs.YteoejhjfbfacdaaGreatDoor
set_option maxHeartbeats 4000000 in
theorem fullrune_any {w : World} (b off cap : Nat) (l : List Int) (hU : UTabs w) (hr : Rd w (some ⟨b, off, none⟩) (l.map (Value.int .u8))) (hb : b < w.heap.size) (hB : ∀ x ∈ l, 0 ≤ x ∧ x ≤ 255) (hn : l.length ≤ 1000) : Calls Tryz.prog 71 [.slice (some ⟨b, off, none⟩) l.length cap].toArray w fun e w' => e = .returned (.bool (fullB l)) ∧ Ch (fun _ => False) w w' := by
 have g0 := getD_bd hB (by decide) 0
 have g1 := getD_bd hB (by decide) 1
 have g2 := getD_bd hB (by decide) 2
 have g3 := getD_bd hB (by decide) 3
 obtain ⟨⟨s1, s2⟩, ⟨s3, s4⟩, ⟨s5, s6⟩, s7⟩ := fs_bd hB
 unfold fsI at s1 s2
 unfold rnI fsI at s3 s4
 unfold szI fsI at s5 s6
 unfold fsI szI fsI at s7
 refine yA Tryz.func71 rfl <| ysr <| yp 1 [] .z <| ye <| ysr <| yp 3 [] .z <| ye <| ys <| ysr <| yp 2 [] .z <| ye <| yc (rE ((l.length : Nat) : Int) 0) (fun hC10 => ?_) fun hC10 => ?_
 ·have hpp0 := hC10
  refine ysr <| yp 1 [] .z <| ye <| x_ret (rS (yR1 (.bool false) ?_))
  refine ⟨congrArg Ending.returned (congrArg Value.bool ?_), Up.ch (Up.refl w.heap.size w)⟩
  simp only [fullB, hpp0, ↓reduceIte, true_or, or_true, and_true, true_and, and_false, false_and, or_false, false_or]
 have hpp0 := hC10
 refine yk <| ysr <| yp 6 [] (.i 0 (l.length) (.l (v := uX (l.getD 0 0)) (o := off) (bytes_at0 hr (by omega)) (.i (l.getD 0 0) (256) (.l (o := (0 + ((l.getD 0 0)).toNat * 1)) (u_first hU ((l.getD 0 0)) (by omega) (by omega)) .z)))) <| ye <| ys <| ysr <| yp 5 [] (.q6 (bitsv .and .u8 (firstN ((l.getD 0 0) : Int).toNat) 7) .z) <| ye <| yc (rM (bitsv .and .u8 (firstN ((l.getD 0 0) : Int).toNat) 7) ((l.length : Nat) : Int)) (fun hC11 => ?_) fun hC11 => ?_
 ·have hpp1 := hC11
  refine ysr <| yp 1 [] .z <| ye <| x_ret (rS (yR1 (.bool true) ?_))
  refine ⟨congrArg Ending.returned (congrArg Value.bool ?_), Up.ch (Up.refl w.heap.size w)⟩
  simp only [fullB, hpp0, hpp1, ↓reduceIte, true_or, or_true, and_true, true_and, and_false, false_and, or_false, false_or]
 have hpp1 := hC11
 refine yk <| ysr <| yp 4 [] (.p (q := 0 ≤ (4 : Int)) (by omega) (.i (Int.fdiv (firstN ((l.getD 0 0) : Int).toNat) (2 ^ min (4 : Int).toNat (IntKind.bits .u8))) (16) (.m (u_acc hU ((Int.fdiv (firstN ((l.getD 0 0) : Int).toNat) (2 ^ min (4 : Int).toNat (IntKind.bits .u8)))) (by omega) (by omega)).1 (.m (u_acc hU ((Int.fdiv (firstN ((l.getD 0 0) : Int).toNat) (2 ^ min (4 : Int).toNat (IntKind.bits .u8)))) (by omega) (by omega)).2 (.e .z))))) <| yo (yN [uX 0, uX 0] 145 fun w12 b13 hb14 hz15 hB16 hc17 => ?_)
 have hlo18 : w.heap.size ≤ b13 := by rw [hb14]; exact Ch.size (Up.refl w.heap.size w)
 have hu19 := Up.step (Up.refl w.heap.size w) hc17 iZ
 have hr21 := Ch.rd hc17 hr id
 refine yo (yS hB16 fun w22 hB23 hc24 => ?_)
 have hu25 := Up.step hu19 hc24 (fun i hi (h : i = b13) => by omega)
 have hr27 := Ch.rd hc24 hr21 (fun (h : b = b13) => by have := (Nat.lt_of_lt_of_le hb (Ch.size (Up.refl w.heap.size w))); omega)
 replace hB23 : Blk w22 b13 [uX (accN ((Int.fdiv (firstN ((l.getD 0 0) : Int).toNat) (2 ^ min (4 : Int).toNat (IntKind.bits .u8))) : Int).toNat).1, uX (accN ((Int.fdiv (firstN ((l.getD 0 0) : Int).toNat) (2 ^ min (4 : Int).toNat (IntKind.bits .u8))) : Int).toNat).2] _ := Blk.to hB23 (by kernel_rfl)
 refine ye <| ys <| ys <| yD [] fun w28 hH29 hc30 => ?_
 have hu31 := Up.step hu25 hc30 iZ
 have hr33 := Ch.rd hc30 hr27 id
 have hB34 := hB23.ch hc30 id
 refine yd (uL 0 3) [] .z <| yv [26] (rL 1 ((l.length : Nat) : Int)) (fun hC35 => ?_) fun hC35 => ?_
 ·have hpp2 := hC35
  refine yd (uL 3 7) [] (.i 1 (l.length) (.l (v := uX (l.getD 1 0)) (o := (off + 1)) (bytes_at hr33 1 (by omega)) (.l (hB34.c 0) .z))) <| yv [33] (rL (l.getD 1 0) (accN ((Int.fdiv (firstN ((l.getD 0 0) : Int).toNat) (2 ^ min (4 : Int).toNat (IntKind.bits .u8))) : Int).toNat).1) (fun hC36 => ?_) fun hC36 => ?_
  ·have hpp3 := hC36
   refine yd (uL 10 8) [] .z <| yDe (nS ?_)
   refine yct <| ysr <| yp 1 [] .z <| ye <| x_ret (rS (yR1 (.bool true) ?_))
   refine ⟨congrArg Ending.returned (congrArg Value.bool ?_), Up.ch hu31⟩
   simp only [fullB, hpp0, hpp1, hpp2, hpp3, ↓reduceIte, true_or, or_true, and_true, true_and, and_false, false_and, or_false, false_or]
  have hpp3 := hC36
  refine yd (uL 10 8) [] (.l (hB34.c 1) (.i 1 (l.length) (.l (v := uX (l.getD 1 0)) (o := (off + 1)) (bytes_at hr33 1 (by omega)) .z))) <| yDe (nS ?_)
  refine yc (rL (accN ((Int.fdiv (firstN ((l.getD 0 0) : Int).toNat) (2 ^ min (4 : Int).toNat (IntKind.bits .u8))) : Int).toNat).2 (l.getD 1 0)) (fun hC37 => ?_) fun hC37 => ?_
  ·have hpp4 := hC37
   refine ysr <| yp 1 [] .z <| ye <| x_ret (rS (yR1 (.bool true) ?_))
   refine ⟨congrArg Ending.returned (congrArg Value.bool ?_), Up.ch hu31⟩
   simp only [fullB, hpp0, hpp1, hpp2, hpp3, hpp4, ↓reduceIte, true_or, or_true, and_true, true_and, and_false, false_and, or_false, false_or]
  have hpp4 := hC37
  refine ysr <| yp 3 [] .z <| yw [44] (rL 2 ((l.length : Nat) : Int)) (fun hC38 => ?_) fun hC38 => ?_
  ·have hpp5 := hC38
   refine yp 8 [] (.i 2 (l.length) (.l (v := uX (l.getD 2 0)) (o := (off + 2)) (bytes_at hr33 2 (by omega)) .z)) <| yw [49] (rL (l.getD 2 0) 128) (fun hC39 => ?_) fun hC39 => ?_
   ·have hpp6 := hC39
    refine yp 14 [] .z <| ye <| yct <| ysr <| yp 1 [] .z <| ye <| x_ret (rS (yR1 (.bool true) ?_))
    refine ⟨congrArg Ending.returned (congrArg Value.bool ?_), Up.ch hu31⟩
    simp only [fullB, hpp0, hpp1, hpp2, hpp3, hpp4, hpp5, hpp6, ↓reduceIte, true_or, or_true, and_true, true_and, and_false, false_and, or_false, false_or]
   have hpp6 := hC39
   refine yp 14 [] (.i 2 (l.length) (.l (v := uX (l.getD 2 0)) (o := (off + 2)) (bytes_at hr33 2 (by omega)) .z)) <| ye <| yc (rL 191 (l.getD 2 0)) (fun hC40 => ?_) fun hC40 => ?_
   ·have hpp7 := hC40
    refine ysr <| yp 1 [] .z <| ye <| x_ret (rS (yR1 (.bool true) ?_))
    refine ⟨congrArg Ending.returned (congrArg Value.bool ?_), Up.ch hu31⟩
    simp only [fullB, hpp0, hpp1, hpp2, hpp3, hpp4, hpp5, hpp6, hpp7, ↓reduceIte, true_or, or_true, and_true, true_and, and_false, false_and, or_false, false_or]
   have hpp7 := hC40
   refine yk <| ysr <| yp 1 [] .z <| ye <| x_ret (yR1 (.bool false) ?_)
   refine ⟨congrArg Ending.returned (congrArg Value.bool ?_), Up.ch hu31⟩
   simp only [fullB, hpp0, hpp1, hpp2, hpp3, hpp4, hpp5, hpp6, hpp7, ↓reduceIte, true_or, or_true, and_true, true_and, and_false, false_and, or_false, false_or]
  have hpp5 := hC38
  refine yp 14 [] .z <| ye <| ycf <| yk <| ysr <| yp 1 [] .z <| ye <| x_ret (yR1 (.bool false) ?_)
  refine ⟨congrArg Ending.returned (congrArg Value.bool ?_), Up.ch hu31⟩
  simp only [fullB, hpp0, hpp1, hpp2, hpp3, hpp4, hpp5, ↓reduceIte, true_or, or_true, and_true, true_and, and_false, false_and, or_false, false_or]
 have hpp2 := hC35
 refine yd (uL 3 15) [] .z <| yDe (nS ?_)
 refine ycf <| ysr <| yp 3 [] .z <| yw [44] (rL 2 ((l.length : Nat) : Int)) (fun hC41 => ?_) fun hC41 => ?_
 ·exfalso; omega
 have hpp3 := hC41
 refine yp 14 [] .z <| ye <| ycf <| yk <| ysr <| yp 1 [] .z <| ye <| x_ret (yR1 (.bool false) ?_)
 refine ⟨congrArg Ending.returned (congrArg Value.bool ?_), Up.ch hu31⟩
 simp only [fullB, hpp0, hpp1, hpp2, hpp3, ↓reduceIte, true_or, or_true, and_true, true_and, and_false, false_and, or_false, false_or]
set_option maxHeartbeats 4000000 in
theorem decslow_any {w : World} (b off cap : Nat) (l : List Int) (hU : UTabs w) (hr : Rd w (some ⟨b, off, none⟩) (l.map (Value.int .u8))) (hb : b < w.heap.size) (hB : ∀ x ∈ l, 0 ≤ x ∧ x ≤ 255) (hn : l.length ≤ 1000) : Calls Tryz.prog 135 [.slice (some ⟨b, off, none⟩) l.length cap].toArray w fun e w' => e = .returned (.tuple #[rX (decI l).1, iX (decI l).2]) ∧ Ch (fun _ => False) w w' := by
 have g0 := getD_bd hB (by decide) 0
 have g1 := getD_bd hB (by decide) 1
 have g2 := getD_bd hB (by decide) 2
 have g3 := getD_bd hB (by decide) 3
 obtain ⟨⟨s1, s2⟩, ⟨s3, s4⟩, ⟨s5, s6⟩, s7⟩ := fs_bd hB
 unfold fsI at s1 s2
 unfold rnI fsI at s3 s4
 unfold szI fsI at s5 s6
 unfold fsI szI fsI at s7
 have z0 := bitsv_u8 .and (l.getD 0 0) 31
 have z1 := bitsv_u8 .and (l.getD 1 0) 63
 have z2 := bitsv_u8 .and (l.getD 0 0) 15
 have z3 := bitsv_u8 .and (l.getD 2 0) 63
 have z4 := bitsv_u8 .and (l.getD 0 0) 7
 have z5 := bitsv_u8 .and (l.getD 3 0) 63
 refine yA Tryz.func135 rfl <| ysr <| yp 2 [] .z <| ye <| ysr <| yp 3 [] .z <| ye <| ys <| ysr <| yp 2 [] .z <| ye <| yc (rL ((l.length : Nat) : Int) 1) (fun hC10 => ?_) fun hC10 => ?_
 ·have hpp0 := hC10
  refine ysr <| yp 2 [] .z <| ye <| x_ret (rS (yR2 [rX 65533, iX 0] .z ?_))
  refine ⟨?_, Up.ch (Up.refl w.heap.size w)⟩
  simp only [decI, hpp0, ↓reduceIte, true_or, or_true, and_true, true_and, and_false, false_and, or_false, false_or]
 have hpp0 := hC10
 refine yk <| ysr <| yp 4 [] (.i 0 (l.length) (.l (v := uX (l.getD 0 0)) (o := off) (bytes_at0 hr (by omega)) .z)) <| ye <| ysr <| yp 4 [] (.i (l.getD 0 0) (256) (.l (o := (0 + ((l.getD 0 0)).toNat * 1)) (u_first hU ((l.getD 0 0)) (by omega) (by omega)) .z)) <| ye <| ys <| ysr <| yp 2 [] .z <| ye <| yc (rM 240 (firstN ((l.getD 0 0) : Int).toNat)) (fun hC11 => ?_) fun hC11 => ?_
 ·have hpp1 := hC11
  refine ysr <| yp 5 [] (.q3 (firstN ((l.getD 0 0) : Int).toNat) (.p (q := 0 ≤ (31 : Int)) (by omega) (.p (q := 0 ≤ (31 : Int)) (by omega) .z))) <| ye <| ysr <| yp 11 [] (.i 0 (l.length) (.l (v := uX (l.getD 0 0)) (o := off) (bytes_at0 hr (by omega)) (.q3 (l.getD 0 0) .z))) <| ye <| x_ret (rS (yR2 [rX (bitsv .or .i32 (bitsv .andNot .i32 (l.getD 0 0) (Int.fdiv (IntKind.wrap .i32 ((firstN ((l.getD 0 0) : Int).toNat) * 2 ^ min (31 : Int).toNat (IntKind.bits .i32))) (2 ^ min (31 : Int).toNat (IntKind.bits .i32)))) (bitsv .and .i32 65533 (Int.fdiv (IntKind.wrap .i32 ((firstN ((l.getD 0 0) : Int).toNat) * 2 ^ min (31 : Int).toNat (IntKind.bits .i32))) (2 ^ min (31 : Int).toNat (IntKind.bits .i32))))), iX 1] .z ?_))
  refine ⟨?_, Up.ch (Up.refl w.heap.size w)⟩
  simp only [decI, hpp0, hpp1, ↓reduceIte, true_or, or_true, and_true, true_and, and_false, false_and, or_false, false_or]
 have hpp1 := hC11
 refine yk <| ysr <| yp 4 [] (.q6 (bitsv .and .u8 (firstN ((l.getD 0 0) : Int).toNat) 7) .z) <| ye <| ysr <| yp 4 [] (.p (q := 0 ≤ (4 : Int)) (by omega) (.i (Int.fdiv (firstN ((l.getD 0 0) : Int).toNat) (2 ^ min (4 : Int).toNat (IntKind.bits .u8))) (16) (.m (u_acc hU ((Int.fdiv (firstN ((l.getD 0 0) : Int).toNat) (2 ^ min (4 : Int).toNat (IntKind.bits .u8)))) (by omega) (by omega)).1 (.m (u_acc hU ((Int.fdiv (firstN ((l.getD 0 0) : Int).toNat) (2 ^ min (4 : Int).toNat (IntKind.bits .u8)))) (by omega) (by omega)).2 (.e .z))))) <| yo (yN [uX 0, uX 0] 145 fun w12 b13 hb14 hz15 hB16 hc17 => ?_)
 have hlo18 : w.heap.size ≤ b13 := by rw [hb14]; exact Ch.size (Up.refl w.heap.size w)
 have hu19 := Up.step (Up.refl w.heap.size w) hc17 iZ
 have hr21 := Ch.rd hc17 hr id
 refine yo (yS hB16 fun w22 hB23 hc24 => ?_)
 have hu25 := Up.step hu19 hc24 (fun i hi (h : i = b13) => by omega)
 have hr27 := Ch.rd hc24 hr21 (fun (h : b = b13) => by have := (Nat.lt_of_lt_of_le hb (Ch.size (Up.refl w.heap.size w))); omega)
 replace hB23 : Blk w22 b13 [uX (accN ((Int.fdiv (firstN ((l.getD 0 0) : Int).toNat) (2 ^ min (4 : Int).toNat (IntKind.bits .u8))) : Int).toNat).1, uX (accN ((Int.fdiv (firstN ((l.getD 0 0) : Int).toNat) (2 ^ min (4 : Int).toNat (IntKind.bits .u8))) : Int).toNat).2] _ := Blk.to hB23 (by kernel_rfl)
 refine ye <| ys <| ysr <| yp 3 [] .z <| ye <| yc (rL ((l.length : Nat) : Int) (bitsv .and .u8 (firstN ((l.getD 0 0) : Int).toNat) 7)) (fun hC28 => ?_) fun hC28 => ?_
 ·have hpp2 := hC28
  refine ysr <| yp 2 [] .z <| ye <| x_ret (rS (yR2 [rX 65533, iX 1] .z ?_))
  refine ⟨?_, Up.ch hu25⟩
  simp only [decI, hpp0, hpp1, hpp2, ↓reduceIte, true_or, or_true, and_true, true_and, and_false, false_and, or_false, false_or]
 have hpp2 := hC28
 refine yk <| ysr <| yp 4 [] (.i 1 (l.length) (.l (v := uX (l.getD 1 0)) (o := (off + 1)) (bytes_at hr27 1 (by omega)) .z)) <| ye <| ys <| ysr <| yp 5 [] (.l (hB23.c 0) .z) <| yw [55] (rL (l.getD 1 0) (accN ((Int.fdiv (firstN ((l.getD 0 0) : Int).toNat) (2 ^ min (4 : Int).toNat (IntKind.bits .u8))) : Int).toNat).1) (fun hC29 => ?_) fun hC29 => ?_
 ·have hpp3 := hC29
  refine yp 10 [] .z <| ye <| yct <| ysr <| yp 2 [] .z <| ye <| x_ret (rS (yR2 [rX 65533, iX 1] .z ?_))
  refine ⟨?_, Up.ch hu25⟩
  simp only [decI, hpp0, hpp1, hpp2, hpp3, ↓reduceIte, true_or, or_true, and_true, true_and, and_false, false_and, or_false, false_or]
 have hpp3 := hC29
 refine yp 10 [] (.l (hB23.c 1) .z) <| ye <| yc (rL (accN ((Int.fdiv (firstN ((l.getD 0 0) : Int).toNat) (2 ^ min (4 : Int).toNat (IntKind.bits .u8))) : Int).toNat).2 (l.getD 1 0)) (fun hC30 => ?_) fun hC30 => ?_
 ·have hpp4 := hC30
  refine ysr <| yp 2 [] .z <| ye <| x_ret (rS (yR2 [rX 65533, iX 1] .z ?_))
  refine ⟨?_, Up.ch hu25⟩
  simp only [decI, hpp0, hpp1, hpp2, hpp3, hpp4, ↓reduceIte, true_or, or_true, and_true, true_and, and_false, false_and, or_false, false_or]
 have hpp4 := hC30
 refine yk <| ys <| ysr <| yp 2 [] .z <| ye <| yc (rM (bitsv .and .u8 (firstN ((l.getD 0 0) : Int).toNat) 7) 2) (fun hC31 => ?_) fun hC31 => ?_
 ·have hpp5 := hC31
  refine ysr <| yp 10 [] (.q3 (bitsv .and .u8 (l.getD 0 0) 31) (.p (q := 0 ≤ (6 : Int)) (by omega) (.q3 (bitsv .and .u8 (l.getD 1 0) 63) .z))) <| ye <| x_ret (rS (yR2 [rX (bitsv .or .i32 (IntKind.wrap .i32 ((bitsv .and .u8 (l.getD 0 0) 31) * 2 ^ min (6 : Int).toNat (IntKind.bits .i32))) (bitsv .and .u8 (l.getD 1 0) 63)), iX 2] .z ?_))
  refine ⟨?_, Up.ch hu25⟩
  simp only [decI, hpp0, hpp1, hpp2, hpp3, hpp4, hpp5, ↓reduceIte, true_or, or_true, and_true, true_and, and_false, false_and, or_false, false_or]
 have hpp5 := hC31
 refine yk <| ysr <| yp 4 [] (.i 2 (l.length) (.l (v := uX (l.getD 2 0)) (o := (off + 2)) (bytes_at hr27 2 (by omega)) .z)) <| ye <| ys <| ysr <| yp 3 [] .z <| yw [76] (rL (l.getD 2 0) 128) (fun hC32 => ?_) fun hC32 => ?_
 ·have hpp6 := hC32
  refine yp 6 [] .z <| ye <| yct <| ysr <| yp 2 [] .z <| ye <| x_ret (rS (yR2 [rX 65533, iX 1] .z ?_))
  refine ⟨?_, Up.ch hu25⟩
  simp only [decI, hpp0, hpp1, hpp2, hpp3, hpp4, hpp5, hpp6, ↓reduceIte, true_or, or_true, and_true, true_and, and_false, false_and, or_false, false_or]
 have hpp6 := hC32
 refine yp 6 [] .z <| ye <| yc (rL 191 (l.getD 2 0)) (fun hC33 => ?_) fun hC33 => ?_
 ·have hpp7 := hC33
  refine ysr <| yp 2 [] .z <| ye <| x_ret (rS (yR2 [rX 65533, iX 1] .z ?_))
  refine ⟨?_, Up.ch hu25⟩
  simp only [decI, hpp0, hpp1, hpp2, hpp3, hpp4, hpp5, hpp6, hpp7, ↓reduceIte, true_or, or_true, and_true, true_and, and_false, false_and, or_false, false_or]
 have hpp7 := hC33
 refine yk <| ys <| ysr <| yp 2 [] .z <| ye <| yc (rM (bitsv .and .u8 (firstN ((l.getD 0 0) : Int).toNat) 7) 3) (fun hC34 => ?_) fun hC34 => ?_
 ·have hpp8 := hC34
  refine ysr <| yp 15 [] (.q3 (bitsv .and .u8 (l.getD 0 0) 15) (.p (q := 0 ≤ (12 : Int)) (by omega) (.q3 (bitsv .and .u8 (l.getD 1 0) 63) (.p (q := 0 ≤ (6 : Int)) (by omega) (.q3 (bitsv .and .u8 (l.getD 2 0) 63) .z))))) <| ye <| x_ret (rS (yR2 [rX (bitsv .or .i32 (bitsv .or .i32 (IntKind.wrap .i32 ((bitsv .and .u8 (l.getD 0 0) 15) * 2 ^ min (12 : Int).toNat (IntKind.bits .i32))) (IntKind.wrap .i32 ((bitsv .and .u8 (l.getD 1 0) 63) * 2 ^ min (6 : Int).toNat (IntKind.bits .i32)))) (bitsv .and .u8 (l.getD 2 0) 63)), iX 3] .z ?_))
  refine ⟨?_, Up.ch hu25⟩
  simp only [decI, hpp0, hpp1, hpp2, hpp3, hpp4, hpp5, hpp6, hpp7, hpp8, ↓reduceIte, true_or, or_true, and_true, true_and, and_false, false_and, or_false, false_or]
 have hpp8 := hC34
 refine yk <| ysr <| yp 4 [] (.i 3 (l.length) (.l (v := uX (l.getD 3 0)) (o := (off + 3)) (bytes_at hr27 3 (by omega)) .z)) <| ye <| ys <| ysr <| yp 3 [] .z <| yw [100] (rL (l.getD 3 0) 128) (fun hC35 => ?_) fun hC35 => ?_
 ·have hpp9 := hC35
  refine yp 6 [] .z <| ye <| yct <| ysr <| yp 2 [] .z <| ye <| x_ret (rS (yR2 [rX 65533, iX 1] .z ?_))
  refine ⟨?_, Up.ch hu25⟩
  simp only [decI, hpp0, hpp1, hpp2, hpp3, hpp4, hpp5, hpp6, hpp7, hpp8, hpp9, ↓reduceIte, true_or, or_true, and_true, true_and, and_false, false_and, or_false, false_or]
 have hpp9 := hC35
 refine yp 6 [] .z <| ye <| yc (rL 191 (l.getD 3 0)) (fun hC36 => ?_) fun hC36 => ?_
 ·have hpp10 := hC36
  refine ysr <| yp 2 [] .z <| ye <| x_ret (rS (yR2 [rX 65533, iX 1] .z ?_))
  refine ⟨?_, Up.ch hu25⟩
  simp only [decI, hpp0, hpp1, hpp2, hpp3, hpp4, hpp5, hpp6, hpp7, hpp8, hpp9, hpp10, ↓reduceIte, true_or, or_true, and_true, true_and, and_false, false_and, or_false, false_or]
 have hpp10 := hC36
 refine yk <| ysr <| yp 20 [] (.q3 (bitsv .and .u8 (l.getD 0 0) 7) (.p (q := 0 ≤ (18 : Int)) (by omega) (.q3 (bitsv .and .u8 (l.getD 1 0) 63) (.p (q := 0 ≤ (12 : Int)) (by omega) (.q3 (bitsv .and .u8 (l.getD 2 0) 63) (.p (q := 0 ≤ (6 : Int)) (by omega) (.q3 (bitsv .and .u8 (l.getD 3 0) 63) .z))))))) <| ye <| x_ret (yR2 [rX (bitsv .or .i32 (bitsv .or .i32 (bitsv .or .i32 (IntKind.wrap .i32 ((bitsv .and .u8 (l.getD 0 0) 7) * 2 ^ min (18 : Int).toNat (IntKind.bits .i32))) (IntKind.wrap .i32 ((bitsv .and .u8 (l.getD 1 0) 63) * 2 ^ min (12 : Int).toNat (IntKind.bits .i32)))) (IntKind.wrap .i32 ((bitsv .and .u8 (l.getD 2 0) 63) * 2 ^ min (6 : Int).toNat (IntKind.bits .i32)))) (bitsv .and .u8 (l.getD 3 0) 63)), iX 4] .z ?_)
 refine ⟨?_, Up.ch hu25⟩
 simp only [decI, hpp0, hpp1, hpp2, hpp3, hpp4, hpp5, hpp6, hpp7, hpp8, hpp9, hpp10, ↓reduceIte, true_or, or_true, and_true, true_and, and_false, false_and, or_false, false_or]
set_option maxHeartbeats 4000000 in
theorem decrune_any {w : World} (b off cap : Nat) (l : List Int) (hU : UTabs w) (hr : Rd w (some ⟨b, off, none⟩) (l.map (Value.int .u8))) (hb : b < w.heap.size) (hB : ∀ x ∈ l, 0 ≤ x ∧ x ≤ 255) (hn : l.length ≤ 1000) : Calls Tryz.prog 115 [.slice (some ⟨b, off, none⟩) l.length cap].toArray w fun e w' => e = .returned (.tuple #[rX (decR l).1, iX (decR l).2]) ∧ Ch (fun _ => False) w w' := by
 have g0 := getD_bd hB (by decide) 0
 have g1 := getD_bd hB (by decide) 1
 have g2 := getD_bd hB (by decide) 2
 have g3 := getD_bd hB (by decide) 3
 obtain ⟨⟨s1, s2⟩, ⟨s3, s4⟩, ⟨s5, s6⟩, s7⟩ := fs_bd hB
 unfold fsI at s1 s2
 unfold rnI fsI at s3 s4
 unfold szI fsI at s5 s6
 unfold fsI szI fsI at s7
 refine yA Tryz.func115 rfl <| ysr <| yp 2 [] .z <| ye <| ys <| ysr <| yp 3 [] .z <| ye <| x_block <| ykeep [0, 6, 7, 8] (f' := [(0, .slice (some ⟨b, off, none⟩) l.length cap), (6, .slice (some ⟨b, off, none⟩) l.length cap), (7, iX ((l.length : Nat) : Int)), (8, iX 0)]) <| x_loop (σ := Nat) (fun k => [(0, .slice (some ⟨b, off, none⟩) l.length cap), (6, .slice (some ⟨b, off, none⟩) l.length cap), (7, iX ((l.length : Nat) : Int)), (8, iX 0)]) (fun k u => Ch (fun _ => False) w u) (fun k => k) 0 rfl ?_ ?_
 ·exact Ch.refl _ _
 intro k w10 hI11 K12 hL13
 have hc14 := hI11
 have hu15 := Up.step (Up.refl w.heap.size w) hc14 iZ
 have hU16 := utabs_ch hc14 hU id id
 have hr17 := Ch.rd hc14 hr id
 refine ysr <| yp 1 [] .z <| ye <| ys <| yc (rL 0 ((l.length : Nat) : Int)) (fun hC18 => ?_) fun hC18 => ?_
 ·have hpp0 := hC18
  refine yk <| ys <| x_block <| ysr <| yp 3 [] (.i 0 (l.length) (.l (v := uX (l.getD 0 0)) (o := off) (bytes_at0 hr17 (by omega)) .z)) <| ye <| ys <| ysr <| yp 2 [] .z <| ye <| yc (rL (l.getD 0 0) 128) (fun hC19 => ?_) fun hC19 => ?_
  ·have hpp1 := hC19
   refine ysr <| yp 4 [] (.q3 (l.getD 0 0) .z) <| ye <| x_ret (rS (rB (rS (then_ret (rB (rS (yR2 [rX (l.getD 0 0), iX 1] .z ?_)))))))
   refine ⟨?_, Up.ch hu15⟩
   simp only [decR, hpp0, hpp1, ↓reduceIte, true_or, or_true, and_true, true_and, and_false, false_and, or_false, false_or]
  have hpp1 := hC19
  refine yk <| x_exit (eB (eS (then_exit (block_exit (nS ?_)))))
  refine ysr <| yp 1 [] .z <| yo (yQ (decslow_any b off cap l hU16 hr17 (Nat.lt_of_lt_of_le hb (Ch.size hu15)) hB hn) fun w21 hc20 => ?_)
  have hu22 := Up.step hu15 hc20 iZ
  refine yp 7 [] .z <| ye <| x_ret (yR2 [rX (decI l).1, iX (decI l).2] .z ?_)
  refine ⟨?_, Up.ch hu22⟩
  simp only [decR, hpp0, hpp1, ↓reduceIte, true_or, or_true, and_true, true_and, and_false, false_and, or_false, false_or]
 have hpp0 := hC18
 refine x_exit (eS (then_exit (block_exit (nS ?_))))
 refine ysr <| yp 1 [] .z <| yo (yQ (decslow_any b off cap l hU16 hr17 (Nat.lt_of_lt_of_le hb (Ch.size hu15)) hB hn) fun w27 hc26 => ?_)
 have hu28 := Up.step hu15 hc26 iZ
 refine yp 7 [] .z <| ye <| x_ret (yR2 [rX (decI l).1, iX (decI l).2] .z ?_)
 refine ⟨?_, Up.ch hu28⟩
 simp only [decR, hpp0, ↓reduceIte, true_or, or_true, and_true, true_and, and_false, false_and, or_false, false_or]
end Go.Proofs.YteoejhjfbfacdaaGreatDoor.X
namespace Go.Proofs.YteoejhjfbfacdaaGreatDoor.X
open Go Go.RowKit Go.Proofs.YteoejhjfbfacdaaGreatDoor
theorem block_goto {N : Nat} {f : Fr} {w : World} {Q : Exit → Act → World → Prop} {id l : Nat} (h : ∀ a, Has N f a → Q (.goto l) a w) : ∀ a, Has N f a → Exit.inBlock id Q (.goto l) a w := h
theorem Own.ltOf {w : World} {e : TypeId} {sz n cap b : Nat} {o : Option Nat} {xs : List Value} (h : Own w e sz o n cap xs) (ho : o = some b) : b < w.heap.size := by subst ho; exact h.lt
def flatA (l : List Ac) : List Value := (l.map fun a => a.vals (.slice none 0 0)).flatten
theorem flatA_snoc (l : List Ac) (a : Ac) : flatA l ++ a.vals (.slice none 0 0) = flatA (l ++ [a]) := by simp [flatA]
theorem flatA_len (l : List Ac) : (flatA l).length = l.length * 6 := by
 induction l with
 | nil => rfl
 | cons a l ih =>
  have : flatA (a :: l) = a.vals (.slice none 0 0) ++ flatA l := by simp [flatA]
  rw [this, List.length_append, ih]
  simp [Ac.vals]; omega
theorem acts_of_nil {w : World} {o : Option Nat} {n c : Nat} {l : List Ac} {K : Nat → Prop} (h : Own w tAct 6 o n c (flatA l)) (hp : ∀ a ∈ l, a.params = []) (hK : ∀ b, o = some b → K b) : ActsAt w o n c l K := by
 have hn := h.1
 rw [flatA_len] at hn
 refine ⟨⟨l.map fun a : Ac => a.vals (.slice none 0 0), h, by simp, fun i hi hi' => ?_⟩, by omega, hK⟩
 refine ⟨none, 0, 0, ?_, by rw [hp _ (List.getElem_mem hi)]; exact IntsAt.nil _ _ _⟩
 rw [List.getElem_map]; rfl
theorem take_acP (l : List Int) (k : Nat) (h : k < l.length) (al : List Ac) : (al ++ (l.take k).map acP) ++ [acP (l.getD k 0)] = al ++ (l.take (k + 1)).map acP := by
 rw [List.take_succ_eq_append_getElem h, List.map_append, List.append_assoc]
 simp [List.getD, List.getElem?_eq_getElem h]
theorem ints32_cell {w : World} {b : Nat} {l : List Int} (h : Rd w (some ⟨b, 0, none⟩) (l.map (Value.int .i32))) (k : Nat) (hk : k < l.length) : w.cell? ⟨b, 0 + ((k : Nat) : Int).toNat * 1, none⟩ = some (.int .i32 (l.getD k 0)) := by
 rw [Int.toNat_natCast, Nat.mul_one]
 refine rd_at h k _ ?_
 rw [List.getElem?_map, List.getElem?_eq_getElem hk]
 simp [List.getD, List.getElem?_eq_getElem hk]
def flushL (u : US) : List Int := List.replicate u.n.toNat 65533
def groundP (p : PS) (c : Int) : PS × List Ac :=
 if c < 128 then
  (if c = 27 then (atP 1, (flushL p.utf).map acP)
  else if c < 32 ∨ c = 127 then ({ p with utf := u0 }, (flushL p.utf).map acP ++ [acX c])
  else ({ p with utf := (feedU u0 c).1 }, (flushL p.utf).map acP ++ (feedU u0 c).2.map acP))
 else ({ p with utf := (feedU p.utf c).1 }, (feedU p.utf c).2.map acP)
def feedP1 (p : PS) (c : Int) : PS × List Ac :=
 if p.state = 0 then groundP p c
 else if 5 ≤ p.state then stringP p c
 else if c = 24 ∨ c = 26 then (atP 0, [])
 else if c = 27 then (atP 1, [])
 else if c < 32 then (p, [acX c])
 else if 127 ≤ c then (p, [])
 else if p.state = 3 ∨ p.state = 4 then csiP p c
 else escapeP p c
def feedP (p : PS) (c : Int) : PS × List Ac :=
 if p.state = 7 then (if c = 92 then finishP p p.within else feedP1 (atP 1) c) else feedP1 p c
structure PS.lim (p : PS) : Prop where
 u : p.utf.ok
 m : p.marks.size ≤ 2
 t : p.text.size ≤ 40
 n : p.params.length ≤ 8
 b : ∀ x ∈ p.params, 0 ≤ x ∧ x ≤ 9999
end Go.Proofs.YteoejhjfbfacdaaGreatDoor.X
namespace Go.Proofs.YteoejhjfbfacdaaGreatDoor.X
open Go Go.RowKit Go.Proofs.YteoejhjfbfacdaaGreatDoor
set_option maxHeartbeats 4000000 in
theorem flush_any (d : US) (w : World) (hn : 0 ≤ d.n ∧ d.n ≤ 3) : Calls Tryz.prog 75 [.agg #[uX d.b0, uX d.b1, uX d.b2, iX d.n]].toArray w fun e w' => ∃ o n cc, e = .returned (.tuple #[.agg #[uX 0, uX 0, uX 0, iX 0], .slice (o.map at0) n cc]) ∧ Own w' tRune 1 o n cc ((flushL d).map (Value.int .i32)) ∧ (∀ b, o = some b → w.heap.size ≤ b) ∧ Ch (fun _ => False) w w' := by
 refine yA Tryz.func75 rfl <| ysr <| yo (yN [uX d.b0, uX d.b1, uX d.b2, iX d.n] 51 fun w10 b11 hb12 hz13 hB14 hc15 => ?_)
 have hlo16 : w.heap.size ≤ b11 := by rw [hb12]; exact Ch.size (Up.refl w.heap.size w)
 have hu17 := Up.step (Up.refl w.heap.size w) hc15 iZ
 refine yo (yN [uX 0, uX 0, uX 0, iX 0] 51 fun w18 b19 hb20 hz21 hB22 hc23 => ?_)
 have hlo24 : w.heap.size ≤ b19 := by rw [hb20]; exact Ch.size hu17
 have hu25 := Up.step hu17 hc23 iZ
 have hB26 := hB14.ch hc23 id
 refine yp 3 [] .z <| ye <| ysr <| yp 1 [] .z <| ye <| ys <| ysr <| yp 3 [] (.l (hB26.c 3) .z) <| ye <| x_block <| ykeep [2, 4, 6, 7] (f' := [(2, pX b19), (4, .slice none 0 0), (6, iX d.n), (7, iX 0)]) <| x_loop (σ := Nat × Option Nat × Nat) (fun ⟨k, o, oc⟩ => [(2, pX b19), (4, .slice (o.map at0) k oc), (6, iX d.n), (7, iX ((k : Nat) : Int))]) (fun ⟨k, o, oc⟩ u => k ≤ d.n.toNat ∧ Ch (fun _ => False) w18 u ∧ Own u tRune 1 o k oc ((List.replicate k 65533).map (Value.int .i32)) ∧ ∀ b, o = some b → w18.heap.size ≤ b) (fun ⟨k, o, oc⟩ => d.n.toNat - k) (0, none, 0) rfl ?_ ?_
 ·exact ⟨Nat.zero_le _, Ch.refl _ _, Own.nil _ _ _, fun b e => by cases e⟩
 intro p w27 hI28 K29 hL30
 obtain ⟨k, o, oc⟩ := p
 obtain ⟨hk, hc31, hO, hlo⟩ := hI28
 have hold32 : b11 < w18.heap.size := hB26.lt
 have hold33 : b19 < w18.heap.size := hB22.lt
 have hu34 := Up.step hu25 hc31 iZ
 have hB36 := hB22.ch hc31 id
 refine ysr <| yp 1 [] .z <| ye <| ys <| yc (rL ((k : Nat) : Int) d.n) (fun hC37 => ?_) fun hC37 => ?_
 ·refine yk <| ys <| x_block <| x_region <| yp 1 [] .z <| yo (yB [rX 65533] 21 1 fun w38 b39 hb40 hz41 hB42 hc43 => ?_)
  have hbn44 : ∀ b', o = some b' → ¬ b' = b39 := fun b' e => by have := hO.ltOf e; omega
  have hlo45 : w.heap.size ≤ b39 := by rw [hb40]; exact Ch.size hu34
  have hlo45l : w18.heap.size ≤ b39 := by rw [hb40]; exact Ch.size hc31
  have hL47 := Ch.trans hc31 hc43 eZ
  have ho50 := hO.ch hc43 iZ
  refine yo (e_app' 21 1 4 o k oc ((List.replicate k 65533).map (Value.int .i32)) (some ⟨b39, 0, none⟩) 1 1 [rX 65533] (some 11) (k + 1) rfl ((List.replicate (k + 1) 65533).map (Value.int .i32)) (by rw [List.replicate_succ', List.map_append]; rfl) (by kernel_rfl) ho50 (Rd.all hB42) rfl rfl (fun h => by cases h) (by constructor <;> first | omega | (simp only [maxLen]; omega)) ?_)
  intro w51 og52 cp53 hO54 hne55 hpos56 hc57
  have hlo58 : ∀ b, og52 = some b → w18.heap.size ≤ b := fun b e => by
   rcases hne55 with h | ⟨g', h, h'⟩
   ·exact hlo b (h ▸ e)
   rw [h] at e; have := Option.some.inj e; have := Ch.size hL47; omega
  have hL60 := Ch.trans hL47 hc57 (fun i hi h => by have := hlo _ h; omega)
  refine yp 4 [] .z <| yE (nB (nS ?_))
  refine x_region <| yp 2 [] (.q6 (((k : Nat) : Int) + 1) .z) <| yE (fun a ha => hL30 (k + 1, og52, cp53) _ ⟨by omega, hL60, hO54, hlo58⟩ (by show d.n.toNat - (k + 1) < d.n.toNat - k; omega) a (ha.kp [2, 4, 6, 7]))
 have hkn : k = d.n.toNat := by omega
 refine x_exit (eS (then_exit (block_exit (nS ?_))))
 refine ysr <| yp 2 [] .z <| yo (yS hB36 fun w63 hB64 hc65 => ?_)
 have hu66 := Up.step hu34 hc65 (fun i hi (h : i = b19) => by omega)
 have ho68 := hO.ch hc65 (fun b e (h : b = b19) => by have := hlo b e; have := hold33; omega)
 replace hB64 : Blk w63 b19 [uX 0, uX 0, uX 0, iX 0] _ := Blk.to hB64 (by kernel_rfl)
 refine yp 4 [] .z <| ye <| x_ret (yR2 [.agg #[uX 0, uX 0, uX 0, iX 0], .slice (o.map at0) k oc] (.a (hB64.cs 0 4) .z) ?_)
 subst hkn
 have hsz0 := Ch.size hu25
 exact ⟨_, _, _, rfl, ho68, (fun b e => Nat.le_trans hsz0 (hlo b e)), Up.ch hu66⟩
set_option maxHeartbeats 4000000 in
theorem printed_some {q : Option Nat} {qn qc : Nat} {al : List Ac} (rb rc : Nat) (rl : List Int) (w : World) (hq : Own w tAct 6 q qn qc (flatA al)) (hr : Rd w (some ⟨rb, 0, none⟩) (rl.map (Value.int .i32))) (hrb : rb < w.heap.size) (hqr : ∀ b, b = rb → ¬ q = some b) (hb : qn ≤ 1000 ∧ rl.length ≤ 1000) : Calls Tryz.prog 76 [.slice (q.map at0) qn qc, .slice (some ⟨rb, 0, none⟩) rl.length rc].toArray w fun e w' => ∃ o n c, e = .returned (.slice (o.map at0) n c) ∧ Own w' tAct 6 o n c (flatA (al ++ rl.map acP)) ∧ (∀ b, o = some b → q = some b ∨ w.heap.size ≤ b) ∧ Ch (fun b => q = some b) w w' := by
 refine yA Tryz.func76 rfl <| ysr <| yp 1 [] .z <| ye <| ys <| ysr <| yp 3 [] .z <| ye <| x_block <| ykeep [0, 7, 8, 9] (f' := [(0, .slice (q.map at0) qn qc), (7, .slice (some ⟨rb, 0, none⟩) rl.length rc), (8, iX ((rl.length : Nat) : Int)), (9, iX 0)]) <| x_loop (σ := Nat × Option Nat × Nat) (fun ⟨k, o, oc⟩ => [(0, .slice (o.map at0) (qn + k) oc), (7, .slice (some ⟨rb, 0, none⟩) rl.length rc), (8, iX ((rl.length : Nat) : Int)), (9, iX ((k : Nat) : Int))]) (fun ⟨k, o, oc⟩ u => k ≤ rl.length ∧ Own u tAct 6 o (qn + k) oc (flatA (al ++ (rl.take k).map acP)) ∧ (∀ b, o = some b → q = some b ∨ w.heap.size ≤ b) ∧ Rd u (some ⟨rb, 0, none⟩) (rl.map (Value.int .i32)) ∧ Ch (fun b => q = some b) w u) (fun ⟨k, o, oc⟩ => rl.length - k) (0, q, qc) rfl ?_ ?_
 ·exact ⟨Nat.zero_le _, by simpa using hq, fun b e => .inl e, hr, (Ch.refl (fun b => q = some b) w)⟩
 intro p w10 hI11 K12 hL13
 obtain ⟨k, o, oc⟩ := p
 obtain ⟨hk, hO, hlo, hrd, hcw⟩ := hI11
 refine ysr <| yp 1 [] .z <| ye <| ys <| yc (rL ((k : Nat) : Int) ((rl.length : Nat) : Int)) (fun hC14 => ?_) fun hC14 => ?_
 ·refine yk <| ys <| x_block <| ysr <| yp 3 [] (.i ((k : Nat) : Int) (rl.length) (.l (o := (0 + (((k : Nat) : Int)).toNat * 1)) (ints32_cell hrd k (by omega)) .z)) <| ye <| x_region <| yp 3 [] .z <| yo (yB [iX 0, rX (rl.getD k 0), uX 0, .string ByteArray.empty, .slice none 0 0, .string ByteArray.empty] 78 1 fun w15 b16 hb17 hz18 hB19 hc20 => ?_)
  have hlo21 : w.heap.size ≤ b16 := by rw [hb17]; exact Ch.size hcw
  have hS22 := Ch.trans hcw hc20 eZ
  have ho23 := hO.ch hc20 iZ
  have hr24 := Ch.rd hc20 hrd id
  refine yo (e_app' 78 6 72 o (qn + k) oc (flatA (al ++ (rl.take k).map acP)) (some ⟨b16, 0, none⟩) 1 1 [iX 0, rX (rl.getD k 0), uX 0, .string ByteArray.empty, .slice none 0 0, .string ByteArray.empty] (some 17) (qn + (k + 1)) (by omega) (flatA (al ++ (rl.take (k + 1)).map acP)) ((flatA_snoc _ (acP (rl.getD k 0))).trans (by rw [take_acP rl k (by omega)])) (by kernel_rfl) ho23 (Rd.all hB19) rfl rfl (fun h => by cases h) (by constructor <;> first | omega | (simp only [maxLen]; omega)) ?_)
  intro w25 og26 cp27 hO28 hne29 hpos30 hc31
  have hlo32 : ∀ b, og26 = some b → q = some b ∨ w.heap.size ≤ b := fun b e => by
   rcases hne29 with h | ⟨g', h, h'⟩
   ·exact hlo b (h ▸ e)
   rw [h] at e; have := Option.some.inj e; have := Ch.size hS22; exact .inr (by omega)
  have hS33 := Ch.trans hS22 hc31 (fun i hi h => (hlo i h).elim id (fun h => by omega))
  have hr34 := Ch.rd hc31 hr24 (fun h => (hlo _ h).elim (fun h => hqr _ rfl h) (fun h => by omega))
  refine yp 6 [] .z <| yE (nB (nS ?_))
  refine x_region <| yp 2 [] (.q6 (((k : Nat) : Int) + 1) .z) <| yE (fun a ha => hL13 (k + 1, og26, cp27) _ ⟨by omega, hO28, hlo32, hr34, hS33⟩ (by show rl.length - (k + 1) < rl.length - k; omega) a (ha.kp [0, 7, 8, 9]))
 have hkn : k = rl.length := by omega
 refine x_exit (eS (then_exit (block_exit (nS ?_))))
 refine ysr <| yp 2 [] .z <| ye <| x_ret (yR1 (.slice (o.map at0) (qn + k) oc) ?_)
 subst hkn
 have hfin := hO
 rw [List.take_length] at hfin
 exact ⟨_, _, _, rfl, hfin, hlo, hcw⟩
set_option maxHeartbeats 4000000 in
theorem printed_none {q : Option Nat} {qn qc : Nat} {al : List Ac} (w : World) (rc : Nat) (hq : Own w tAct 6 q qn qc (flatA al)) : Calls Tryz.prog 76 [.slice (q.map at0) qn qc, .slice none 0 rc].toArray w fun e w' => ∃ o n c, e = .returned (.slice (o.map at0) n c) ∧ Own w' tAct 6 o n c (flatA al) ∧ (∀ b, o = some b → q = some b ∨ w.heap.size ≤ b) ∧ Ch (fun b => q = some b) w w' := by
 refine yA Tryz.func76 rfl <| ysr <| yp 1 [] .z <| ye <| ys <| ysr <| yp 3 [] .z <| ye <| x_block <| ykeep [0, 7, 8, 9] (f' := [(0, .slice (q.map at0) qn qc), (7, .slice none 0 rc), (8, iX 0), (9, iX 0)]) <| x_loop (σ := Nat) (fun k => [(0, .slice (q.map at0) qn qc), (7, .slice none 0 rc), (8, iX 0), (9, iX ((k : Nat) : Int))]) (fun k u => Own u tAct 6 q qn qc (flatA al) ∧ Ch (fun b => q = some b) w u) (fun k => k) 0 rfl ?_ ?_
 ·exact ⟨hq, (Ch.refl (fun b => q = some b) w)⟩
 intro k w10 hI11 K12 hL13
 obtain ⟨hO, hcw⟩ := hI11
 refine ysr <| yp 1 [] .z <| ye <| ys <| yc (rL ((k : Nat) : Int) 0) (fun hC14 => ?_) fun hC14 => ?_
 ·exfalso; omega
 refine x_exit (eS (then_exit (block_exit (nS ?_))))
 refine ysr <| yp 2 [] .z <| ye <| x_ret (yR1 (.slice (q.map at0) qn qc) ?_)
 exact ⟨q, qn, qc, rfl, hO, fun b e => .inl e, hcw⟩
theorem printed_any {q : Option Nat} {qn qc : Nat} {al : List Ac} {ro : Option Nat} {rn rc : Nat} {rl : List Int} (w : World) (hq : Own w tAct 6 q qn qc (flatA al)) (hr : Own w tRune 1 ro rn rc (rl.map (Value.int .i32))) (hqr : ∀ b, ro = some b → ¬ q = some b) (hb : qn ≤ 1000 ∧ rn ≤ 1000) : Calls Tryz.prog 76 [.slice (q.map at0) qn qc, .slice (ro.map at0) rn rc].toArray w fun e w' => ∃ o n c, e = .returned (.slice (o.map at0) n c) ∧ Own w' tAct 6 o n c (flatA (al ++ rl.map acP)) ∧ (∀ b, o = some b → q = some b ∨ w.heap.size ≤ b) ∧ Ch (fun b => q = some b) w w' := by
 have hn := hr.1
 rw [List.length_map, Nat.mul_one] at hn
 cases ro with
 | none =>
  obtain ⟨rfl, rfl⟩ := hr.2.2.2.1 rfl
  obtain rfl : rl = [] := List.eq_nil_of_length_eq_zero hn
  simpa using printed_none w 0 hq
 | some rb =>
  subst hn
  exact printed_some rb rc rl w hq hr.rd hr.lt (fun b e => e ▸ hqr rb rfl) hb
end Go.Proofs.YteoejhjfbfacdaaGreatDoor.X
namespace Go.Proofs.YteoejhjfbfacdaaGreatDoor.X
open Go Go.RowKit Go.Proofs.YteoejhjfbfacdaaGreatDoor
theorem rd_some_take {w : World} {ad : Addr} {l : List Int} {k : IntKind} (h : Rd w (some ad) (l.map (Value.int k))) (n : Nat) : Rd w (some ad) ((l.take n).map (Value.int k)) :=
  ⟨(fun e => by cases e), fun ad' e j u hj => h.2 ad' e j u (by
    rw [List.map_take, List.getElem?_take] at hj
    split at hj
    · exact hj
    · cases hj)⟩
set_option maxHeartbeats 4000000 in
theorem ufeed_any (d : US) (c : Int) (w : World) (hU : UTabs w) (hd : d.ok) (hc : 0 ≤ c ∧ c ≤ 255) : Calls Tryz.prog 77 [.agg #[uX d.b0, uX d.b1, uX d.b2, iX d.n], uX c].toArray w fun e w' => ∃ o n cc, e = .returned (.tuple #[.agg #[uX (feedU d c).1.b0, uX (feedU d c).1.b1, uX (feedU d c).1.b2, iX (feedU d c).1.n], .slice (o.map at0) n cc]) ∧ Own w' tRune 1 o n cc (((feedU d c).2).map (Value.int .i32)) ∧ (∀ b, o = some b → w.heap.size ≤ b) ∧ Ch (fun _ => False) w w' := by
 have hdn := hd.n
 have hLl : (d.pend ++ [c]).length = d.n.toNat + 1 := by rw [List.length_append, hd.len]; rfl
 have hLB : ∀ x ∈ d.pend ++ [c], 0 ≤ x ∧ x ≤ 255 := fun x hx => (List.mem_append.1 hx).elim (hd.pend x) (fun h => by simp at h; omega)
 refine yA Tryz.func77 rfl <| ysr <| yo (yN [uX d.b0, uX d.b1, uX d.b2, iX d.n] 51 fun w10 b11 hb12 hz13 hB14 hc15 => ?_)
 have hlo16 : w.heap.size ≤ b11 := by rw [hb12]; exact Ch.size (Up.refl w.heap.size w)
 have hu17 := Up.step (Up.refl w.heap.size w) hc15 iZ
 have hU18 := utabs_ch hc15 hU id id
 refine yo (yN [uX 0, uX 0, uX 0, iX 0] 51 fun w19 b20 hb21 hz22 hB23 hc24 => ?_)
 have hlo25 : w.heap.size ≤ b20 := by rw [hb21]; exact Ch.size hu17
 have hu26 := Up.step hu17 hc24 iZ
 have hU27 := utabs_ch hc24 hU18 id id
 have hB28 := hB14.ch hc24 id
 refine yp 3 [] .z <| ye <| ysr <| yp 4 [] (.l (hB28.c 3) (.j d.n (3) .z)) ?_
 refine yo (e_app' 5 1 1 none 0 0 [] (some ⟨b11, 0, none⟩) (d.n : Int).toNat 3 (d.pend.map (Value.int .u8)) (some 15) d.n.toNat (Nat.zero_add _) (d.pend.map (Value.int .u8)) rfl (by kernel_rfl) (Own.nil _ _ _) (hd.rd hB28) (by rw [List.length_map, hd.len, Nat.mul_one]) (ints_one _) (fun h => by cases h) (by constructor <;> first | omega | (simp only [maxLen]; omega)) ?_)
 intro w29 og30 cp31 hO32 hne33 hpos34 hc35
 replace hc35 := ch_none hc35
 have hold37 : ¬ og30 = some b11 := fun e => by
  rcases hne33 with h | ⟨g', h, h'⟩
  ·rw [h] at e; cases e
  rw [h] at e; have := Option.some.inj e; have := hB28.lt; omega
 have hold38 : ¬ og30 = some b20 := fun e => by
  rcases hne33 with h | ⟨g', h, h'⟩
  ·rw [h] at e; cases e
  rw [h] at e; have := Option.some.inj e; have := hB23.lt; omega
 have hlo36 : ∀ b, og30 = some b → w.heap.size ≤ b := fun b e => by
  rcases hne33 with h | ⟨g', h, h'⟩
  ·rw [h] at e; cases e
  rw [h] at e; have := Option.some.inj e; have := Ch.size hu26; omega
 have hu39 := Up.step hu26 hc35 iZ
 have hU40 := utabs_ch hc35 hU27 id id
 have hB41 := hB28.ch hc35 id
 have hB42 := hB23.ch hc35 id
 refine yp 6 [] .z <| yo (yB [uX c] 5 1 fun w43 b44 hb45 hz46 hB47 hc48 => ?_)
 have hlo49 : w.heap.size ≤ b44 := by rw [hb45]; exact Ch.size hu39
 have hu50 := Up.step hu39 hc48 iZ
 have hU51 := utabs_ch hc48 hU40 id id
 have hB52 := hB41.ch hc48 id
 have hB53 := hB42.ch hc48 id
 have hbo54 := hO32.ch hc48 iZ
 refine yo (e_app' 5 1 1 og30 d.n.toNat cp31 (d.pend.map (Value.int .u8)) (some ⟨b44, 0, none⟩) 1 1 [uX c] (some 18) (d.n.toNat + 1) rfl ((d.pend ++ [c]).map (Value.int .u8)) (by rw [List.map_append]; rfl) (by kernel_rfl) hbo54 (Rd.all hB47) rfl rfl (fun h => by cases h) (by constructor <;> first | omega | (simp only [maxLen]; omega)) ?_)
 intro w55 og56 cp57 hO58 hne59 hpos60 hc61
 obtain ⟨gb62, rfl⟩ : ∃ b, og56 = some b := hpos60 (by omega)
 have hd63 : Df b11 gb62 := app_ne hne59 (fun h => hold37 h) hB52.lt
 have hd64 : Df b20 gb62 := app_ne hne59 (fun h => hold38 h) hB53.lt
 have hlo65 : w.heap.size ≤ gb62 := by
  rcases hne59 with h | ⟨g', h, h'⟩
  ·exact hlo36 _ h.symm
  have := Option.some.inj h; have := Ch.size hu50; omega
 have hu66 := Up.step hu50 hc61 (fun i hi h => by have := hlo36 _ h; omega)
 have hU67 := utabs_ch hc61 hU51 (fun h => by have := hlo36 _ h; have := utab_lt hU; omega) (fun h => by have := hlo36 _ h; have := utab_lt hU; omega)
 have hB68 := hB52.ch hc61 hold37
 have hB69 := hB53.ch hc61 hold38
 refine yp 9 [] .z <| ye <| ysr <| yp 1 [] .z <| ye <| ys <| x_block <| ykeep [4, 6, 7] (f' := [(4, pX b20), (6, .slice (some ⟨gb62, 0, none⟩) (d.n.toNat + 1) cp57), (7, .slice none 0 0)]) <| x_loop (σ := Nat × Option Nat × Nat × Nat × Nat) (fun ⟨k, o, oc, off, cp⟩ => [(4, pX b20), (6, .slice (some ⟨gb62, off, none⟩) (itU (d.pend ++ [c]) k).2.length cp), (7, .slice (o.map at0) k oc)]) (fun ⟨k, o, oc, off, cp⟩ u => (itU (d.pend ++ [c]) k).1.length = k ∧ (itU (d.pend ++ [c]) k).2.length ≤ cp ∧ Rd u (some ⟨gb62, off, none⟩) ((itU (d.pend ++ [c]) k).2.map (Value.int .u8)) ∧ Ch (fun _ => False) w55 u ∧ Own u tRune 1 o k oc ((itU (d.pend ++ [c]) k).1.map (Value.int .i32)) ∧ ∀ b, o = some b → w55.heap.size ≤ b) (fun ⟨k, o, oc, off, cp⟩ => d.n.toNat + 1 - k) (0, none, 0, 0, cp57) (by show _ = _; simp only [itU, List.length_append, hd.len]; rfl) ?_ ?_
 ·exact ⟨rfl, by show (d.pend ++ [c]).length ≤ cp57; have := hO58.2.1; rw [List.length_append, hd.len]; exact this, hO58.rd, Ch.refl _ _, Own.nil _ _ _, fun b e => by cases e⟩
 intro p w70 hI71 K72 hL73
 obtain ⟨k, o, oc, off, cp⟩ := p
 obtain ⟨hkl, hcp, hrd, hc74, hO, hlo⟩ := hI71
 have hit := itU_len hLB k
 have hmB := itU_bytes hLB k
 have hold75 : b11 < w55.heap.size := hB68.lt
 have hold76 : b20 < w55.heap.size := hB69.lt
 have hold77 : gb62 < w55.heap.size := hO58.lt
 have hu78 := Up.step hu66 hc74 iZ
 have hU79 := utabs_ch hc74 hU67 id id
 have hB81 := hB69.ch hc74 id
 have hlt83 := Nat.lt_of_lt_of_le hold77 (Ch.size hc74)
 refine ys <| ysr <| yp 4 [] .z <| yw [22] (rL 0 (((itU (d.pend ++ [c]) k).2.length : Nat) : Int)) (fun hC84 => ?_) fun hC84 => ?_
 ·have hpp0 := hC84
  refine yp 5 [] .z <| yo (yQ (fullrune_any gb62 off cp (itU (d.pend ++ [c]) k).2 hU79 hrd hlt83 hmB (by omega)) fun w86 hc85 => ?_)
  have hu87 := Up.step hu78 hc85 iZ
  have hL88 := Ch.trans hc74 hc85 eZ
  have hU89 := utabs_ch hc85 hU79 id id
  have hB91 := hB81.ch hc85 id
  have hr92 := Ch.rd hc85 hrd id
  have hlt93 := Nat.lt_of_lt_of_le hlt83 (Ch.size hc85)
  have ho94 := hO.ch hc85 iZ
  refine yp 7 [] .z <| ye <| yc (rY (fullB (itU (d.pend ++ [c]) k).2)) (fun hC95 => ?_) fun hC95 => ?_
  ·have hpp1 := hC95
   refine yk <| x_block <| ysr <| yp 1 [] .z <| yo (yQ (decrune_any gb62 off cp (itU (d.pend ++ [c]) k).2 hU89 hr92 hlt93 hmB (by omega)) fun w97 hc96 => ?_)
   have hu98 := Up.step hu87 hc96 iZ
   have hL99 := Ch.trans hL88 hc96 eZ
   have hr103 := Ch.rd hc96 hr92 id
   have hlt104 := Nat.lt_of_lt_of_le hlt93 (Ch.size hc96)
   have ho105 := ho94.ch hc96 iZ
   have hdr := decR_bd hmB (by omega)
   refine yp 7 [] .z <| ye <| yD [2, 3] fun w106 hH107 hc108 => ?_
   have hu109 := Up.step hu98 hc108 iZ
   have hL110 := Ch.trans hL99 hc108 eZ
   have hr114 := Ch.rd hc108 hr103 id
   have hlt115 := Nat.lt_of_lt_of_le hlt104 (Ch.size hc108)
   have ho116 := ho105.ch hc108 iZ
   refine ydT [0, 1, 4, 5, 6] [] rfl (fun _ => (.j (decR (itU (d.pend ++ [c]) k).2).2 ((itU (d.pend ++ [c]) k).2.length) .z)) <| yK 2 (yB [rX (decR (itU (d.pend ++ [c]) k).2).1] 21 1 fun w117 b118 hb119 hz120 hB121 hc122 => ?_)
   have hbn123 : ∀ b', o = some b' → ¬ b' = b118 := fun b' e => by have := ho116.ltOf e; omega
   have hlo124 : w.heap.size ≤ b118 := by rw [hb119]; exact Ch.size hu109
   have hlo124l : w55.heap.size ≤ b118 := by rw [hb119]; exact Ch.size hL110
   have hL126 := Ch.trans hL110 hc122 eZ
   have hr130 := Ch.rd hc122 hr114 id
   have hlt131 := Nat.lt_of_lt_of_le hlt115 (Ch.size hc122)
   have ho132 := ho116.ch hc122 iZ
   refine x_killed ?_
   refine yK 3 (e_app' 21 1 4 o k oc ((itU (d.pend ++ [c]) k).1.map (Value.int .i32)) (some ⟨b118, 0, none⟩) 1 1 [rX (decR (itU (d.pend ++ [c]) k).2).1] (some 34) (k + 1) rfl (((itU (d.pend ++ [c]) k).1 ++ [(decR (itU (d.pend ++ [c]) k).2).1]).map (Value.int .i32)) (by rw [List.map_append]; rfl) (by kernel_rfl) ho132 (Rd.all hB121) rfl rfl (fun h => by cases h) (by constructor <;> first | omega | (simp only [maxLen]; omega)) ?_)
   intro w133 og134 cp135 hO136 hne137 hpos138 hc139
   have hlo140 : ∀ b, og134 = some b → w55.heap.size ≤ b := fun b e => by
    rcases hne137 with h | ⟨g', h, h'⟩
    ·exact hlo b (h ▸ e)
    rw [h] at e; have := Option.some.inj e; have := Ch.size hL126; omega
   have hL142 := Ch.trans hL126 hc139 (fun i hi h => by have := hlo _ h; omega)
   have hr146 := Ch.rd hc139 hr130 (fun h => by have := hlo _ h; have := hold77; omega)
   have hlt147 := Nat.lt_of_lt_of_le hlt131 (Ch.size hc139)
   refine x_killed <| yd [7, 8] [] .z <| yDe (nB  (fun a ha => hL73 (k + 1, og134, cp135, (if cp = ((decR (itU (d.pend ++ [c]) k).2).2 : Int).toNat then off else off + ((decR (itU (d.pend ++ [c]) k).2).2 : Int).toNat * 1), (cp - ((decR (itU (d.pend ++ [c]) k).2).2 : Int).toNat)) _ ⟨by rw [(itU_go (l := (d.pend ++ [c])) (k := k) (by omega) (by assumption)), List.length_append, hkl]; rfl, (by rw [(itU_go (l := (d.pend ++ [c])) (k := k) (by omega) (by assumption)), List.length_drop]; omega), (by rw [(itU_go (l := (d.pend ++ [c])) (k := k) (by omega) (by assumption)), List.map_drop]; exact rd_behind hr146 (by rw [List.length_map]; exact hcp)), hL142, (by rw [(itU_go (l := (d.pend ++ [c])) (k := k) (by omega) (by assumption))]; exact hO136), hlo140⟩ (by show d.n.toNat + 1 - (k + 1) < d.n.toNat + 1 - k; omega) a (by simp only [(itU_go (l := (d.pend ++ [c])) (k := k) (by omega) (by assumption)), List.length_drop]; exact ha.kp [4, 6, 7])))
  have hst := itU_stop (l := (d.pend ++ [c])) (k := k) (fun hx => absurd (hx.2.symm.trans hC95) (by decide)) (4 - k)
  have hpp1 := hC95
  refine x_exit (eS (then_exit (block_exit (nS ?_))))
  refine ysr <| yo (yN [uX 0, uX 0, uX 0, iX 0] 51 fun w148 b149 hb150 hz151 hB152 hc153 => ?_)
  have hbn154 : ∀ b', o = some b' → ¬ b' = b149 := fun b' e => by have := ho94.ltOf e; omega
  have hlo155 : w.heap.size ≤ b149 := by rw [hb150]; exact Ch.size hu87
  have hu156 := Up.step hu87 hc153 iZ
  have hB159 := hB91.ch hc153 id
  have hr160 := Ch.rd hc153 hr92 id
  have hlt161 := Nat.lt_of_lt_of_le hlt93 (Ch.size hc153)
  have ho162 := ho94.ch hc153 iZ
  refine ye <| ysr <| yp 3 [] .z ?_
  have hm3 : ((itU (d.pend ++ [c]) k).2.take 3).length ≤ 3 := by rw [List.length_take]; omega
  refine yo (e_copy' 1 b149 0 3 3 (some ⟨gb62, off, none⟩) (itU (d.pend ++ [c]) k).2.length cp (((itU (d.pend ++ [c]) k).2.take 3).map (Value.int .u8)) (some 41) ((itU (d.pend ++ [c]) k).2.take 3).length (by rw [List.length_take]; omega) (by kernel_rfl) hB152 (rd_some_take hr160 3) (by rw [List.length_map, Nat.mul_one]) (ints_one _) (by rw [List.length_map]; simp only [List.length_cons, List.length_nil]; omega) ?_)
  intro w163 hB164 hc165
  have hu166 := Up.step hu156 hc165 (fun i hi (h : i = b149) => by omega)
  have hB169 := hB159.ch hc165 (fun (h : b20 = b149) => by have := hB91.lt; omega)
  have hlt171 := Nat.lt_of_lt_of_le hlt161 (Ch.size hc165)
  have ho172 := ho162.ch hc165 (fun b e (h : b = b149) => hbn154 b e h)
  replace hB164 := mkU_cells hm3 rfl hB164
  refine yp 5 [] .z <| yo (yS hB164 fun w173 hB174 hc175 => ?_)
  have hu176 := Up.step hu166 hc175 (fun i hi (h : i = b149) => by omega)
  have hB179 := hB169.ch hc175 (fun (h : b20 = b149) => by have := hB91.lt; omega)
  have hlt181 := Nat.lt_of_lt_of_le hlt171 (Ch.size hc175)
  have ho182 := ho172.ch hc175 (fun b e (h : b = b149) => hbn154 b e h)
  replace hB174 : Blk w173 b149 [uX (mkU ((itU (d.pend ++ [c]) k).2.take 3)).b0, uX (mkU ((itU (d.pend ++ [c]) k).2.take 3)).b1, uX (mkU ((itU (d.pend ++ [c]) k).2.take 3)).b2, iX ((((itU (d.pend ++ [c]) k).2.take 3).length : Nat) : Int)] _ := Blk.to hB174 (by kernel_rfl)
  refine ye <| ysr <| yp 2 [] (.a (hB174.cs 0 4) .z) <| yo (yS hB179 fun w183 hB184 hc185 => ?_)
  have hu186 := Up.step hu176 hc185 (fun i hi (h : i = b20) => by omega)
  have hlt190 := Nat.lt_of_lt_of_le hlt181 (Ch.size hc185)
  have ho191 := ho182.ch hc185 (fun b e (h : b = b20) => by have := hlo b e; have := hold76; omega)
  replace hB184 : Blk w183 b20 [uX (mkU ((itU (d.pend ++ [c]) k).2.take 3)).b0, uX (mkU ((itU (d.pend ++ [c]) k).2.take 3)).b1, uX (mkU ((itU (d.pend ++ [c]) k).2.take 3)).b2, iX ((((itU (d.pend ++ [c]) k).2.take 3).length : Nat) : Int)] _ := Blk.to hB184 (by kernel_rfl)
  refine yp 4 [] .z <| ye <| x_ret (yR2 [.agg #[uX (mkU ((itU (d.pend ++ [c]) k).2.take 3)).b0, uX (mkU ((itU (d.pend ++ [c]) k).2.take 3)).b1, uX (mkU ((itU (d.pend ++ [c]) k).2.take 3)).b2, iX ((((itU (d.pend ++ [c]) k).2.take 3).length : Nat) : Int)], .slice (o.map at0) k oc] (.a (hB184.cs 0 4) .z) ?_)
  rw [show k + (4 - k) = 4 by omega] at hst
  unfold feedU
  rw [hst]
  have hsz0 := Ch.size hu66
  exact ⟨_, _, _, rfl, ho191, (fun b e => Nat.le_trans hsz0 (hlo b e)), Up.ch hu186⟩
 have hst := itU_stop (l := (d.pend ++ [c])) (k := k) (fun hx => by omega) (4 - k)
 have hpp0 := hC84
 refine yp 7 [] .z <| ye <| ycf <| x_exit (eS (then_exit (block_exit (nS ?_))))
 refine ysr <| yo (yN [uX 0, uX 0, uX 0, iX 0] 51 fun w193 b194 hb195 hz196 hB197 hc198 => ?_)
 have hbn199 : ∀ b', o = some b' → ¬ b' = b194 := fun b' e => by have := hO.ltOf e; omega
 have hlo200 : w.heap.size ≤ b194 := by rw [hb195]; exact Ch.size hu78
 have hu201 := Up.step hu78 hc198 iZ
 have hB204 := hB81.ch hc198 id
 have hr205 := Ch.rd hc198 hrd id
 have hlt206 := Nat.lt_of_lt_of_le hlt83 (Ch.size hc198)
 have ho207 := hO.ch hc198 iZ
 refine ye <| ysr <| yp 3 [] .z ?_
 have hm3 : ((itU (d.pend ++ [c]) k).2.take 3).length ≤ 3 := by rw [List.length_take]; omega
 refine yo (e_copy' 1 b194 0 3 3 (some ⟨gb62, off, none⟩) (itU (d.pend ++ [c]) k).2.length cp (((itU (d.pend ++ [c]) k).2.take 3).map (Value.int .u8)) (some 41) ((itU (d.pend ++ [c]) k).2.take 3).length (by rw [List.length_take]; omega) (by kernel_rfl) hB197 (rd_some_take hr205 3) (by rw [List.length_map, Nat.mul_one]) (ints_one _) (by rw [List.length_map]; simp only [List.length_cons, List.length_nil]; omega) ?_)
 intro w208 hB209 hc210
 have hu211 := Up.step hu201 hc210 (fun i hi (h : i = b194) => by omega)
 have hB214 := hB204.ch hc210 (fun (h : b20 = b194) => by have := hB81.lt; omega)
 have hlt216 := Nat.lt_of_lt_of_le hlt206 (Ch.size hc210)
 have ho217 := ho207.ch hc210 (fun b e (h : b = b194) => hbn199 b e h)
 replace hB209 := mkU_cells hm3 rfl hB209
 refine yp 5 [] .z <| yo (yS hB209 fun w218 hB219 hc220 => ?_)
 have hu221 := Up.step hu211 hc220 (fun i hi (h : i = b194) => by omega)
 have hB224 := hB214.ch hc220 (fun (h : b20 = b194) => by have := hB81.lt; omega)
 have hlt226 := Nat.lt_of_lt_of_le hlt216 (Ch.size hc220)
 have ho227 := ho217.ch hc220 (fun b e (h : b = b194) => hbn199 b e h)
 replace hB219 : Blk w218 b194 [uX (mkU ((itU (d.pend ++ [c]) k).2.take 3)).b0, uX (mkU ((itU (d.pend ++ [c]) k).2.take 3)).b1, uX (mkU ((itU (d.pend ++ [c]) k).2.take 3)).b2, iX ((((itU (d.pend ++ [c]) k).2.take 3).length : Nat) : Int)] _ := Blk.to hB219 (by kernel_rfl)
 refine ye <| ysr <| yp 2 [] (.a (hB219.cs 0 4) .z) <| yo (yS hB224 fun w228 hB229 hc230 => ?_)
 have hu231 := Up.step hu221 hc230 (fun i hi (h : i = b20) => by omega)
 have hlt235 := Nat.lt_of_lt_of_le hlt226 (Ch.size hc230)
 have ho236 := ho227.ch hc230 (fun b e (h : b = b20) => by have := hlo b e; have := hold76; omega)
 replace hB229 : Blk w228 b20 [uX (mkU ((itU (d.pend ++ [c]) k).2.take 3)).b0, uX (mkU ((itU (d.pend ++ [c]) k).2.take 3)).b1, uX (mkU ((itU (d.pend ++ [c]) k).2.take 3)).b2, iX ((((itU (d.pend ++ [c]) k).2.take 3).length : Nat) : Int)] _ := Blk.to hB229 (by kernel_rfl)
 refine yp 4 [] .z <| ye <| x_ret (yR2 [.agg #[uX (mkU ((itU (d.pend ++ [c]) k).2.take 3)).b0, uX (mkU ((itU (d.pend ++ [c]) k).2.take 3)).b1, uX (mkU ((itU (d.pend ++ [c]) k).2.take 3)).b2, iX ((((itU (d.pend ++ [c]) k).2.take 3).length : Nat) : Int)], .slice (o.map at0) k oc] (.a (hB229.cs 0 4) .z) ?_)
 rw [show k + (4 - k) = 4 by omega] at hst
 unfold feedU
 rw [hst]
 have hsz0 := Ch.size hu66
 exact ⟨_, _, _, rfl, ho236, (fun b e => Nat.le_trans hsz0 (hlo b e)), Up.ch hu231⟩
end Go.Proofs.YteoejhjfbfacdaaGreatDoor.X
namespace Go.Proofs.YteoejhjfbfacdaaGreatDoor.X
open Go Go.RowKit Go.Proofs.YteoejhjfbfacdaaGreatDoor
theorem u0_ok : u0.ok := ⟨by decide, by decide, by decide, by decide⟩
theorem ufeed_any' {X : US × List Int} {d : US} {c : Int} (hX : feedU d c = X) (d' : US) (c' : Int) (w : World) (hU : UTabs w) (hd : d.ok) (hc : 0 ≤ c ∧ c ≤ 255) : Calls Tryz.prog 77 [.agg #[uX d.b0, uX d.b1, uX d.b2, iX d.n], uX c].toArray w fun e w' => ∃ o n cc, e = .returned (.tuple #[.agg #[uX X.1.b0, uX X.1.b1, uX X.1.b2, iX X.1.n], .slice (o.map at0) n cc]) ∧ Own w' tRune 1 o n cc ((X.2).map (Value.int .i32)) ∧ (∀ b, o = some b → w.heap.size ≤ b) ∧ Ch (fun _ => False) w w' := by
 subst hX
 exact ufeed_any d c w hU hd hc
theorem feedU_len {d : US} (h : d.ok) (c : Int) : (feedU d c).2.length ≤ 4 := by
 have : ∀ (l : List Int) k, (itU l k).1.length ≤ k := fun l k => by
  induction k with
  | zero => simp [itU]
  | succ k ih =>
   unfold itU
   split
   ·simp only [List.length_append, List.length_cons, List.length_nil]; omega
   omega
 exact this _ 4
set_option maxHeartbeats 4000000 in
theorem ground_any {w : World} {po : Option Nat} {pn pc : Nat} {p : PS} (hP : IntsAt w .i64 po pn pc p.params (fun b => po = some b)) (c : Int) (hcB : 0 ≤ c ∧ c ≤ 255) (hU : UTabs w) (hp : p.lim) : Calls Tryz.prog 44 [.agg #[iX p.state, uX p.utf.b0, uX p.utf.b1, uX p.utf.b2, iX p.utf.n, .string p.marks, .slice (po.map at0) pn pc, .string p.text, iX p.within], uX c].toArray w fun e w' => Fed w w' e po (groundP p c).1 (groundP p c).2 := by
 refine yA Tryz.func44 rfl <| ysr <| yo (yN [iX p.state, uX p.utf.b0, uX p.utf.b1, uX p.utf.b2, iX p.utf.n, .string p.marks, .slice (po.map at0) pn pc, .string p.text, iX p.within] 54 fun w10 b11 hb12 hz13 hB14 hc15 => ?_)
 have hlo16 : w.heap.size ≤ b11 := by rw [hb12]; exact Ch.size (Up.refl w.heap.size w)
 have hu17 := Up.step (Up.refl w.heap.size w) hc15 iZ
 have hp18 := hP.ch hc15 iZ
 have hU19 := utabs_ch hc15 hU id id
 refine yo (yN [iX 0, uX 0, uX 0, uX 0, iX 0, .string ByteArray.empty, .slice none 0 0, .string ByteArray.empty, iX 0] 54 fun w20 b21 hb22 hz23 hB24 hc25 => ?_)
 have hlo26 : w.heap.size ≤ b21 := by rw [hb22]; exact Ch.size hu17
 have hu27 := Up.step hu17 hc25 iZ
 have hp28 := hp18.ch hc25 iZ
 have hU29 := utabs_ch hc25 hU19 id id
 have hB30 := hB14.ch hc25 id
 refine yp 3 [] .z <| ye <| ysr <| yp 1 [] .z <| ye <| ysr <| yp 1 [] .z <| ye <| ys <| ysr <| yp 2 [] .z <| ye <| yc (rL c 128) (fun hC31 => ?_) fun hC31 => ?_
 ·have hpp0 := hC31
  refine ysr <| yp 2 [] (.a (hB30.cs 1 4) .z) ?_
  have hold38 : b11 < w20.heap.size := hB30.lt
  have hold39 : b21 < w20.heap.size := hB24.lt
  refine yo (yC (flush_any p.utf _ hp.u.n) ?_)
  rintro _ w40 ⟨o32, n33, c34, rfl, ho35, hlo36, hc37⟩
  refine ⟨_, rfl, ?_⟩
  have hu41 := Up.step hu27 hc37 iZ
  have hp42 := hp28.ch hc37 iZ
  have hU43 := utabs_ch hc37 hU29 id id
  have hB44 := hB30.ch hc37 id
  have hB45 := hB24.ch hc37 id
  refine yp 7 [] .z <| yo (yS hB44 fun w46 hB47 hc48 => ?_)
  have hu49 := Up.step hu41 hc48 (fun i hi (h : i = b11) => by omega)
  have hp50 := hp42.ch hc48 (fun b hb (e : b = b11) => by have := (hP.2.2.2 b hb).2; have := hlo16; omega)
  have hU51 := utabs_ch hc48 hU43 (fun (h : gFirst = b11) => by have := utab_lt hU; have := hlo16; omega) (fun (h : gAcc = b11) => by have := utab_lt hU; have := hlo16; omega)
  have hB52 := hB45.ch hc48 (fun (h : b21 = b11) => by have := hB14.lt; omega)
  have ho53 := ho35.ch hc48 (fun b e (h : b = b11) => by have := hlo36 b e; have := hold38; omega)
  replace hB47 : Blk w46 b11 [iX p.state, uX 0, uX 0, uX 0, iX 0, .string p.marks, .slice (po.map at0) pn pc, .string p.text, iX p.within] _ := Blk.to hB47 (by kernel_rfl)
  refine yp 9 [] .z <| ye <| x_region <| yp 2 [] .z ?_
  have hold60 : b21 < w46.heap.size := hB52.lt
  have hold61 : b11 < w46.heap.size := hB47.lt
  have hnl62 := ho53.1
  rw [List.length_map, Nat.mul_one] at hnl62
  have hfl : (flushL p.utf).length ≤ 3 := by unfold flushL; rw [List.length_replicate]; have := hp.u.n; omega
  refine yo (yC (printed_any (q := none) (al := []) _ (Own.nil _ _ _) ho53 (fun b e h => by cases h) (by constructor <;> omega)) ?_)
  rintro _ w63 ⟨o54, n55, c56, rfl, ho57, hlo58, hc59⟩
  refine ⟨_, rfl, ?_⟩
  replace hc59 := ch_none hc59
  have hlo64 : ∀ b, o54 = some b → w.heap.size ≤ b := fun b e => (hlo58 b e).elim (fun h => by cases h) (fun h => by have := Ch.size hu49; omega)
  have hu65 := Up.step hu49 hc59 iZ
  have hp66 := hp50.ch hc59 iZ
  have hU67 := utabs_ch hc59 hU51 id id
  have hB68 := hB52.ch hc59 id
  have hB69 := hB47.ch hc59 id
  have hbn70 : ∀ b', o54 = some b' → ¬ b' = b21 := fun b' e h => (hlo58 b' e).elim (fun h2 => by cases h2) (fun h2 => by have := hold60; omega)
  have hbn71 : ∀ b', o54 = some b' → ¬ b' = b11 := fun b' e h => (hlo58 b' e).elim (fun h2 => by cases h2) (fun h2 => by have := hold61; omega)
  refine yp 4 [] .z <| ye <| ys <| x_block <| ysr <| yp 3 [] .z <| ye <| yc (rE c 27) (fun hC72 => ?_) fun hC72 => ?_
  ·have hpp1 := hC72
   refine ysr <| yo (yQ (pat_any 1 _) fun w74 hc73 => ?_)
   have hu75 := Up.step hu65 hc73 iZ
   have hB78 := hB68.ch hc73 id
   have ho80 := ho57.ch hc73 iZ
   refine yp 2 [] .z <| yo (yS hB78 fun w81 hB82 hc83 => ?_)
   have hu84 := Up.step hu75 hc83 (fun i hi (h : i = b21) => by omega)
   have ho88 := ho80.ch hc83 (fun b e (h : b = b21) => hbn70 b e h)
   replace hB82 : Blk w81 b21 [iX 1, uX 0, uX 0, uX 0, iX 0, .string ByteArray.empty, .slice none 0 0, .string ByteArray.empty, iX 0] _ := Blk.to hB82 (by kernel_rfl)
   refine yp 4 [] .z <| ye <| x_ret (rB (rS (yR2 [.agg #[iX 1, uX 0, uX 0, uX 0, iX 0, .string ByteArray.empty, .slice none 0 0, .string ByteArray.empty, iX 0], .slice (o54.map at0) n55 c56] (.a (hB82.cs 0 9) .z) ?_)))
   refine Fed.mk' (p' := (PS.mk 1 ⟨0, 0, 0, 0⟩ ByteArray.empty [] ByteArray.empty 0)) (l := ([] ++ (flushL p.utf).map acP)) none 0 0 o54 n55 c56 (.inr (fun b h => by cases h)) rfl (IntsAt.nil _ _ _) (acts_of_nil ho88 ?_ fun b e => ⟨hlo64 b e, ho88.ltOf e⟩) (Up.ch hu84) ?_
   ·simp only [List.mem_append, List.mem_map, List.not_mem_nil, false_or, List.mem_singleton]
    rintro a ⟨_, _, rfl⟩ <;> rfl
   simp only [groundP, atP, hpp0, hpp1, ↓reduceIte, Int.reduceLT, Int.reduceLE, Int.reduceEq, and_true, true_and, or_true, true_or, or_false, false_or, and_self, List.nil_append, List.append_assoc, u0]
  have hpp1 := hC72
  refine ysr <| yp 3 [] .z <| yw [28] (rL c 32) (fun hC89 => ?_) fun hC89 => ?_
  ·have hpp2 := hC89
   refine yp 7 [] .z <| ye <| yct <| ys <| x_drawnB (fun b => o54 = some b) [6] (by kernel_rfl) (fun w90 hH91 hc92 => ?_)
   have hu93 := Up.step hu65 hc92 iZ
   have hp94 := hp66.ch hc92 iZ
   have hB96 := hB68.ch hc92 id
   have hB97 := hB69.ch hc92 id
   have ho98 := ho57.ch hc92 iZ
   refine ydC (uL 0 4) [] (fun u hu => (.a (cellsC_ch hu (hB97.cs 0 9) (fun h => hbn71 _ h rfl)) .z)) <| yH 4 (yB [iX 1, rX 0, uX c, .string ByteArray.empty, .slice none 0 0, .string ByteArray.empty] 78 1 fun w99 b100 hb101 hz102 hB103 hc104 => ?_)
   have hbn105 : ∀ b', o54 = some b' → ¬ b' = b100 := fun b' e => by have := ho98.ltOf e; omega
   have hlo106 : w.heap.size ≤ b100 := by rw [hb101]; exact Ch.size hu93
   have hu107 := Up.step hu93 hc104 iZ
   have hp108 := hp94.ch hc104 iZ
   have hB110 := hB96.ch hc104 id
   have hB111 := hB97.ch hc104 id
   have ho112 := ho98.ch hc104 iZ
   refine x_heldB hc104 eZ ?_
   have hal := ho112.1
   rw [flatA_len] at hal
   have hal2 : ([] ++ (flushL p.utf).map acP).length ≤ 3 := by simp only [List.length_append, List.length_map, List.length_nil]; omega
   refine yH 5 (e_app' 78 6 72 o54 n55 c56 (flatA ([] ++ (flushL p.utf).map acP)) (some ⟨b100, 0, none⟩) 1 1 [iX 1, rX 0, uX c, .string ByteArray.empty, .slice none 0 0, .string ByteArray.empty] (some 37) (n55 + 1) rfl (flatA (([] ++ (flushL p.utf).map acP) ++ [acX c])) (flatA_snoc _ (acX c)) (by kernel_rfl) ho112 (Rd.all hB103) rfl rfl (fun h => by cases h) (by constructor <;> first | omega | (simp only [maxLen]; omega)) ?_)
   intro w113 og114 cp115 hO116 hne117 hpos118 hc119
   have hbn121 : ∀ b', og114 = some b' → ¬ b' = b21 := fun b' e h => by
    rcases hne117 with h3 | ⟨g', h3, h4⟩
    ·exact hbn70 b' (h3 ▸ e) h
    rw [h3] at e; have := Option.some.inj e; have := hB110.lt; omega
   have hbn122 : ∀ b', og114 = some b' → ¬ b' = b11 := fun b' e h => by
    rcases hne117 with h3 | ⟨g', h3, h4⟩
    ·exact hbn71 b' (h3 ▸ e) h
    rw [h3] at e; have := Option.some.inj e; have := hB111.lt; omega
   have hlo120 : ∀ b, og114 = some b → w.heap.size ≤ b := fun b e => by
    rcases hne117 with h3 | ⟨g', h3, h4⟩
    ·exact hlo64 b (h3 ▸ e)
    rw [h3] at e; have := Option.some.inj e; have := Ch.size hu107; omega
   have hu123 := Up.step hu107 hc119 (fun i hi h => by have := hlo64 _ h; omega)
   have hp124 := hp108.ch hc119 (fun b hb h => by have := (hP.2.2.2 b hb).2; have := hlo64 _ h; omega)
   have hB126 := hB110.ch hc119 (fun h => hbn70 _ h rfl)
   refine x_heldB hc119 iZ <| yK 6 (yS hB126 fun w128 hB129 hc130 => ?_)
   have hu131 := Up.step hu123 hc130 (fun i hi (h : i = b21) => by omega)
   have hp132 := hp124.ch hc130 (fun b hb (e : b = b21) => by have := (hP.2.2.2 b hb).2; have := hlo26; omega)
   have ho135 := hO116.ch hc130 (fun b e (h : b = b21) => hbn121 b e h)
   replace hB129 : Blk w128 b21 [iX p.state, uX 0, uX 0, uX 0, iX 0, .string p.marks, .slice (po.map at0) pn pc, .string p.text, iX p.within] _ := Blk.to hB129 (by kernel_rfl)
   refine x_killed <| yd [7] [] .z <| yDe (nS ?_)
   refine x_ret (rB (rS (yR2 [.agg #[iX p.state, uX 0, uX 0, uX 0, iX 0, .string p.marks, .slice (po.map at0) pn pc, .string p.text, iX p.within], .slice (og114.map at0) (n55 + 1) cp115] (.a (hB129.cs 0 9) .z) ?_)))
   refine Fed.mk' (p' := (PS.mk p.state ⟨0, 0, 0, 0⟩ p.marks p.params p.text p.within)) (l := (([] ++ (flushL p.utf).map acP) ++ [acX c])) po pn pc og114 (n55 + 1) cp115 (.inr (fun b h => (hP.2.2.2 b h).2)) rfl (hp132.old) (acts_of_nil ho135 ?_ fun b e => ⟨hlo120 b e, ho135.ltOf e⟩) (Up.ch hu131) ?_
   ·simp only [List.mem_append, List.mem_map, List.not_mem_nil, false_or, List.mem_singleton]
    rintro a ((⟨_, _, rfl⟩ | rfl)) <;> rfl
   simp only [groundP, atP, hpp0, hpp1, hpp2, ↓reduceIte, Int.reduceLT, Int.reduceLE, Int.reduceEq, and_true, true_and, or_true, true_or, or_false, false_or, and_self, List.nil_append, List.append_assoc, u0]
  have hpp2 := hC89
  refine yp 7 [] .z <| ye <| yc (rE c 127) (fun hC136 => ?_) fun hC136 => ?_
  ·have hpp3 := hC136
   refine ys <| x_drawnB (fun b => o54 = some b) [6] (by kernel_rfl) (fun w137 hH138 hc139 => ?_)
   have hu140 := Up.step hu65 hc139 iZ
   have hp141 := hp66.ch hc139 iZ
   have hB143 := hB68.ch hc139 id
   have hB144 := hB69.ch hc139 id
   have ho145 := ho57.ch hc139 iZ
   refine ydC (uL 0 4) [] (fun u hu => (.a (cellsC_ch hu (hB144.cs 0 9) (fun h => hbn71 _ h rfl)) .z)) <| yH 4 (yB [iX 1, rX 0, uX c, .string ByteArray.empty, .slice none 0 0, .string ByteArray.empty] 78 1 fun w146 b147 hb148 hz149 hB150 hc151 => ?_)
   have hbn152 : ∀ b', o54 = some b' → ¬ b' = b147 := fun b' e => by have := ho145.ltOf e; omega
   have hlo153 : w.heap.size ≤ b147 := by rw [hb148]; exact Ch.size hu140
   have hu154 := Up.step hu140 hc151 iZ
   have hp155 := hp141.ch hc151 iZ
   have hB157 := hB143.ch hc151 id
   have hB158 := hB144.ch hc151 id
   have ho159 := ho145.ch hc151 iZ
   refine x_heldB hc151 eZ ?_
   have hal := ho159.1
   rw [flatA_len] at hal
   have hal2 : ([] ++ (flushL p.utf).map acP).length ≤ 3 := by simp only [List.length_append, List.length_map, List.length_nil]; omega
   refine yH 5 (e_app' 78 6 72 o54 n55 c56 (flatA ([] ++ (flushL p.utf).map acP)) (some ⟨b147, 0, none⟩) 1 1 [iX 1, rX 0, uX c, .string ByteArray.empty, .slice none 0 0, .string ByteArray.empty] (some 37) (n55 + 1) rfl (flatA (([] ++ (flushL p.utf).map acP) ++ [acX c])) (flatA_snoc _ (acX c)) (by kernel_rfl) ho159 (Rd.all hB150) rfl rfl (fun h => by cases h) (by constructor <;> first | omega | (simp only [maxLen]; omega)) ?_)
   intro w160 og161 cp162 hO163 hne164 hpos165 hc166
   have hbn168 : ∀ b', og161 = some b' → ¬ b' = b21 := fun b' e h => by
    rcases hne164 with h3 | ⟨g', h3, h4⟩
    ·exact hbn70 b' (h3 ▸ e) h
    rw [h3] at e; have := Option.some.inj e; have := hB157.lt; omega
   have hbn169 : ∀ b', og161 = some b' → ¬ b' = b11 := fun b' e h => by
    rcases hne164 with h3 | ⟨g', h3, h4⟩
    ·exact hbn71 b' (h3 ▸ e) h
    rw [h3] at e; have := Option.some.inj e; have := hB158.lt; omega
   have hlo167 : ∀ b, og161 = some b → w.heap.size ≤ b := fun b e => by
    rcases hne164 with h3 | ⟨g', h3, h4⟩
    ·exact hlo64 b (h3 ▸ e)
    rw [h3] at e; have := Option.some.inj e; have := Ch.size hu154; omega
   have hu170 := Up.step hu154 hc166 (fun i hi h => by have := hlo64 _ h; omega)
   have hp171 := hp155.ch hc166 (fun b hb h => by have := (hP.2.2.2 b hb).2; have := hlo64 _ h; omega)
   have hB173 := hB157.ch hc166 (fun h => hbn70 _ h rfl)
   refine x_heldB hc166 iZ <| yK 6 (yS hB173 fun w175 hB176 hc177 => ?_)
   have hu178 := Up.step hu170 hc177 (fun i hi (h : i = b21) => by omega)
   have hp179 := hp171.ch hc177 (fun b hb (e : b = b21) => by have := (hP.2.2.2 b hb).2; have := hlo26; omega)
   have ho182 := hO163.ch hc177 (fun b e (h : b = b21) => hbn168 b e h)
   replace hB176 : Blk w175 b21 [iX p.state, uX 0, uX 0, uX 0, iX 0, .string p.marks, .slice (po.map at0) pn pc, .string p.text, iX p.within] _ := Blk.to hB176 (by kernel_rfl)
   refine x_killed <| yd [7] [] .z <| yDe (nS ?_)
   refine x_ret (rB (rS (yR2 [.agg #[iX p.state, uX 0, uX 0, uX 0, iX 0, .string p.marks, .slice (po.map at0) pn pc, .string p.text, iX p.within], .slice (og161.map at0) (n55 + 1) cp162] (.a (hB176.cs 0 9) .z) ?_)))
   refine Fed.mk' (p' := (PS.mk p.state ⟨0, 0, 0, 0⟩ p.marks p.params p.text p.within)) (l := (([] ++ (flushL p.utf).map acP) ++ [acX c])) po pn pc og161 (n55 + 1) cp162 (.inr (fun b h => (hP.2.2.2 b h).2)) rfl (hp179.old) (acts_of_nil ho182 ?_ fun b e => ⟨hlo167 b e, ho182.ltOf e⟩) (Up.ch hu178) ?_
   ·simp only [List.mem_append, List.mem_map, List.not_mem_nil, false_or, List.mem_singleton]
    rintro a ((⟨_, _, rfl⟩ | rfl)) <;> rfl
   simp only [groundP, atP, hpp0, hpp1, hpp2, hpp3, ↓reduceIte, Int.reduceLT, Int.reduceLE, Int.reduceEq, and_true, true_and, or_true, true_or, or_false, false_or, and_self, List.nil_append, List.append_assoc, u0]
  have hpp3 := hC136
  refine x_skip (nB (nS ?_))
  refine ysr <| yp 3 [] (.a (hB69.cs 1 4) .z) ?_
  have hold189 : b21 < w63.heap.size := hB68.lt
  have hold190 : b11 < w63.heap.size := hB69.lt
  obtain ⟨X191, hX192⟩ : ∃ X, feedU u0 c = X := ⟨_, rfl⟩
  have hx193 : ∀ b, o54 = some b → b < w63.heap.size := fun b e => ho57.ltOf e
  refine yo (yC (ufeed_any' hX192 u0 c _ hU67 u0_ok hcB) ?_)
  rintro _ w194 ⟨o183, n184, cc185, rfl, ho186, hlo187, hc188⟩
  refine ⟨_, rfl, ?_⟩
  have hu195 := Up.step hu65 hc188 iZ
  have hp196 := hp66.ch hc188 iZ
  have hB198 := hB68.ch hc188 id
  have hB199 := hB69.ch hc188 id
  have ho200 := ho57.ch hc188 iZ
  refine yp 8 [] .z <| yo (yS hB199 fun w201 hB202 hc203 => ?_)
  have hu204 := Up.step hu195 hc203 (fun i hi (h : i = b11) => by omega)
  have hp205 := hp196.ch hc203 (fun b hb (e : b = b11) => by have := (hP.2.2.2 b hb).2; have := hlo16; omega)
  have hB207 := hB198.ch hc203 (fun (h : b21 = b11) => by have := hB14.lt; omega)
  have ho208 := ho200.ch hc203 (fun b e (h : b = b11) => hbn71 b e h)
  have ho209 := ho186.ch hc203 (fun b e (h : b = b11) => by have := hlo187 b e; have := hold190; omega)
  replace hB202 : Blk w201 b11 [iX p.state, uX X191.1.b0, uX X191.1.b1, uX X191.1.b2, iX X191.1.n, .string p.marks, .slice (po.map at0) pn pc, .string p.text, iX p.within] _ := Blk.to hB202 (by kernel_rfl)
  refine yp 10 [] .z <| ye <| ys <| x_drawnB (fun b => o54 = some b) [4] (by kernel_rfl) (fun w210 hH211 hc212 => ?_)
  have hu213 := Up.step hu204 hc212 iZ
  have hp214 := hp205.ch hc212 iZ
  have hB216 := hB207.ch hc212 id
  have ho217 := ho208.ch hc212 iZ
  have ho218 := ho209.ch hc212 iZ
  have hB219 := hB202.ch hc212 id
  refine ydC (uL 0 3) [] (fun u hu => (.a (cellsC_ch hu (hB219.cs 0 9) (fun h => hbn71 _ h rfl)) .z)) ?_
  have hold226 : b21 < w210.heap.size := hB216.lt
  have hold227 : b11 < w210.heap.size := hB219.lt
  have hnl228 := ho218.1
  rw [List.length_map, Nat.mul_one] at hnl228
  have hfl2 := feedU_len u0_ok c
  rw [hX192] at hfl2
  have hal := ho217.1
  rw [flatA_len] at hal
  have hal2 : ([] ++ (flushL p.utf).map acP).length ≤ 3 := by simp only [List.length_append, List.length_map, List.length_nil]; omega
  refine yH 3 (yC (printed_any (q := o54) (al := ([] ++ (flushL p.utf).map acP)) _ ho217 ho218 (fun b e h => by have := hlo187 b e; have := hx193 b h; omega) (by constructor <;> omega)) ?_)
  rintro _ w229 ⟨o220, n221, c222, rfl, ho223, hlo224, hc225⟩
  refine ⟨_, rfl, ?_⟩
  have hlo230 : ∀ b, o220 = some b → w.heap.size ≤ b := fun b e => (hlo224 b e).elim (fun h => hlo64 b h) (fun h => by have := Ch.size hu213; omega)
  have hu231 := Up.step hu213 hc225 (fun i hi h => by have := hlo64 _ h; omega)
  have hp232 := hp214.ch hc225 (fun b hb h => by have := (hP.2.2.2 b hb).2; have := hlo64 _ h; omega)
  have hB234 := hB216.ch hc225 (fun h => hbn70 _ h rfl)
  have hbn236 : ∀ b', o220 = some b' → ¬ b' = b21 := fun b' e h => (hlo224 b' e).elim (fun h2 => (hbn70 b' h2 h)) (fun h2 => by have := hold226; omega)
  have hbn237 : ∀ b', o220 = some b' → ¬ b' = b11 := fun b' e h => (hlo224 b' e).elim (fun h2 => (hbn71 b' h2 h)) (fun h2 => by have := hold227; omega)
  refine x_heldB hc225 iZ <| yK 4 (yS hB234 fun w238 hB239 hc240 => ?_)
  have hu241 := Up.step hu231 hc240 (fun i hi (h : i = b21) => by omega)
  have hp242 := hp232.ch hc240 (fun b hb (e : b = b21) => by have := (hP.2.2.2 b hb).2; have := hlo26; omega)
  have ho245 := ho223.ch hc240 (fun b e (h : b = b21) => hbn236 b e h)
  replace hB239 : Blk w238 b21 [iX p.state, uX X191.1.b0, uX X191.1.b1, uX X191.1.b2, iX X191.1.n, .string p.marks, .slice (po.map at0) pn pc, .string p.text, iX p.within] _ := Blk.to hB239 (by kernel_rfl)
  refine x_killed <| yd [5] [] .z <| yDe (nS ?_)
  refine x_ret (yR2 [.agg #[iX p.state, uX X191.1.b0, uX X191.1.b1, uX X191.1.b2, iX X191.1.n, .string p.marks, .slice (po.map at0) pn pc, .string p.text, iX p.within], .slice (o220.map at0) n221 c222] (.a (hB239.cs 0 9) .z) ?_)
  refine Fed.mk' (p' := (PS.mk p.state ⟨X191.1.b0, X191.1.b1, X191.1.b2, X191.1.n⟩ p.marks p.params p.text p.within)) (l := (([] ++ (flushL p.utf).map acP) ++ X191.2.map acP)) po pn pc o220 n221 c222 (.inr (fun b h => (hP.2.2.2 b h).2)) rfl (hp242.old) (acts_of_nil ho245 ?_ fun b e => ⟨hlo230 b e, ho245.ltOf e⟩) (Up.ch hu241) ?_
  ·simp only [List.mem_append, List.mem_map, List.not_mem_nil, false_or, List.mem_singleton]
   rintro a (⟨_, _, rfl⟩ | ⟨_, _, rfl⟩) <;> rfl
  simp only [groundP, atP, hpp0, hpp1, hpp2, hpp3, ↓reduceIte, Int.reduceLT, Int.reduceLE, Int.reduceEq, and_true, true_and, or_true, true_or, or_false, false_or, and_self, List.nil_append, List.append_assoc, hX192]
 have hpp0 := hC31
 refine yk <| ys <| x_block <| ysr <| yp 3 [] .z <| ye <| yc (rE c 27) (fun hC246 => ?_) fun hC246 => ?_
 ·exfalso; omega
 have hpp1 := hC246
 refine ysr <| yp 3 [] .z <| yw [28] (rL c 32) (fun hC247 => ?_) fun hC247 => ?_
 ·exfalso; omega
 have hpp2 := hC247
 refine yp 7 [] .z <| ye <| yc (rE c 127) (fun hC248 => ?_) fun hC248 => ?_
 ·exfalso; omega
 have hpp3 := hC248
 refine x_skip (nB (nS ?_))
 refine ysr <| yp 3 [] (.a (hB30.cs 1 4) .z) ?_
 have hold255 : b11 < w20.heap.size := hB30.lt
 have hold256 : b21 < w20.heap.size := hB24.lt
 obtain ⟨X257, hX258⟩ : ∃ X, feedU p.utf c = X := ⟨_, rfl⟩
 refine yo (yC (ufeed_any' hX258 p.utf c _ hU29 hp.u hcB) ?_)
 rintro _ w259 ⟨o249, n250, cc251, rfl, ho252, hlo253, hc254⟩
 refine ⟨_, rfl, ?_⟩
 have hu260 := Up.step hu27 hc254 iZ
 have hp261 := hp28.ch hc254 iZ
 have hB263 := hB30.ch hc254 id
 have hB264 := hB24.ch hc254 id
 refine yp 8 [] .z <| yo (yS hB263 fun w265 hB266 hc267 => ?_)
 have hu268 := Up.step hu260 hc267 (fun i hi (h : i = b11) => by omega)
 have hp269 := hp261.ch hc267 (fun b hb (e : b = b11) => by have := (hP.2.2.2 b hb).2; have := hlo16; omega)
 have hB271 := hB264.ch hc267 (fun (h : b21 = b11) => by have := hB14.lt; omega)
 have ho272 := ho252.ch hc267 (fun b e (h : b = b11) => by have := hlo253 b e; have := hold255; omega)
 replace hB266 : Blk w265 b11 [iX p.state, uX X257.1.b0, uX X257.1.b1, uX X257.1.b2, iX X257.1.n, .string p.marks, .slice (po.map at0) pn pc, .string p.text, iX p.within] _ := Blk.to hB266 (by kernel_rfl)
 refine yp 10 [] .z <| ye <| ys <| yDC [4] fun w273 hH274 hc275 => ?_
 have hu276 := Up.step hu268 hc275 iZ
 have hp277 := hp269.ch hc275 iZ
 have hB279 := hB271.ch hc275 id
 have ho280 := ho272.ch hc275 iZ
 have hB281 := hB266.ch hc275 id
 refine ydC (uL 0 3) [] (fun u hu => (.a (cellsC_ch hu (hB281.cs 0 9) id) .z)) ?_
 have hold288 : b21 < w273.heap.size := hB279.lt
 have hold289 : b11 < w273.heap.size := hB281.lt
 have hnl290 := ho280.1
 rw [List.length_map, Nat.mul_one] at hnl290
 have hfl2 := feedU_len hp.u c
 rw [hX258] at hfl2
 refine yH 3 (yC (printed_any (q := none) (al := []) _ (Own.nil _ _ _) ho280 (fun b e h => by cases h) (by constructor <;> omega)) ?_)
 rintro _ w291 ⟨o282, n283, c284, rfl, ho285, hlo286, hc287⟩
 refine ⟨_, rfl, ?_⟩
 replace hc287 := ch_none hc287
 have hlo292 : ∀ b, o282 = some b → w.heap.size ≤ b := fun b e => (hlo286 b e).elim (fun h => by cases h) (fun h => by have := Ch.size hu276; omega)
 have hu293 := Up.step hu276 hc287 iZ
 have hp294 := hp277.ch hc287 iZ
 have hB296 := hB279.ch hc287 id
 have hbn298 : ∀ b', o282 = some b' → ¬ b' = b21 := fun b' e h => (hlo286 b' e).elim (fun h2 => by cases h2) (fun h2 => by have := hold288; omega)
 have hbn299 : ∀ b', o282 = some b' → ¬ b' = b11 := fun b' e h => (hlo286 b' e).elim (fun h2 => by cases h2) (fun h2 => by have := hold289; omega)
 refine x_heldC hc287 <| yK 4 (yS hB296 fun w300 hB301 hc302 => ?_)
 have hu303 := Up.step hu293 hc302 (fun i hi (h : i = b21) => by omega)
 have hp304 := hp294.ch hc302 (fun b hb (e : b = b21) => by have := (hP.2.2.2 b hb).2; have := hlo26; omega)
 have ho307 := ho285.ch hc302 (fun b e (h : b = b21) => hbn298 b e h)
 replace hB301 : Blk w300 b21 [iX p.state, uX X257.1.b0, uX X257.1.b1, uX X257.1.b2, iX X257.1.n, .string p.marks, .slice (po.map at0) pn pc, .string p.text, iX p.within] _ := Blk.to hB301 (by kernel_rfl)
 refine x_killed <| yd [5] [] .z <| yDe (nS ?_)
 refine x_ret (yR2 [.agg #[iX p.state, uX X257.1.b0, uX X257.1.b1, uX X257.1.b2, iX X257.1.n, .string p.marks, .slice (po.map at0) pn pc, .string p.text, iX p.within], .slice (o282.map at0) n283 c284] (.a (hB301.cs 0 9) .z) ?_)
 refine Fed.mk' (p' := (PS.mk p.state ⟨X257.1.b0, X257.1.b1, X257.1.b2, X257.1.n⟩ p.marks p.params p.text p.within)) (l := ([] ++ X257.2.map acP)) po pn pc o282 n283 c284 (.inr (fun b h => (hP.2.2.2 b h).2)) rfl (hp304.old) (acts_of_nil ho307 ?_ fun b e => ⟨hlo292 b e, ho307.ltOf e⟩) (Up.ch hu303) ?_
 ·simp only [List.mem_append, List.mem_map, List.not_mem_nil, false_or, List.mem_singleton]
  rintro a ⟨_, _, rfl⟩ <;> rfl
 simp only [groundP, atP, hpp0, hpp1, hpp2, hpp3, ↓reduceIte, Int.reduceLT, Int.reduceLE, Int.reduceEq, and_true, true_and, or_true, true_or, or_false, false_or, and_self, List.nil_append, List.append_assoc, hX258]
end Go.Proofs.YteoejhjfbfacdaaGreatDoor.X
namespace Go.Proofs.YteoejhjfbfacdaaGreatDoor.X
open Go Go.RowKit Go.Proofs.YteoejhjfbfacdaaGreatDoor
theorem atP_state (s : Int) : (atP s).state = s := rfl
set_option maxHeartbeats 4000000 in
theorem feed_any {w : World} {po : Option Nat} {pn pc : Nat} {p : PS} (hP : IntsAt w .i64 po pn pc p.params (fun b => po = some b)) (c : Int) (hcB : 0 ≤ c ∧ c ≤ 255) (hU : UTabs w) (hp : p.lim) (hn8 : pn ≤ 8) : Calls Tryz.prog 24 [.agg #[iX p.state, uX p.utf.b0, uX p.utf.b1, uX p.utf.b2, iX p.utf.n, .string p.marks, .slice (po.map at0) pn pc, .string p.text, iX p.within], uX c].toArray w fun e w' => Fed w w' e po (feedP p c).1 (feedP p c).2 := by
 refine yA Tryz.func24 rfl <| ysr <| yo (yN [iX p.state, uX p.utf.b0, uX p.utf.b1, uX p.utf.b2, iX p.utf.n, .string p.marks, .slice (po.map at0) pn pc, .string p.text, iX p.within] 54 fun w10 b11 hb12 hz13 hB14 hc15 => ?_)
 have hlo16 : w.heap.size ≤ b11 := by rw [hb12]; exact Ch.size (Up.refl w.heap.size w)
 have hu17 := Up.step (Up.refl w.heap.size w) hc15 iZ
 have hp18 := hP.ch hc15 iZ
 have hU19 := utabs_ch hc15 hU id id
 refine yo (yN [iX 0, uX 0, uX 0, uX 0, iX 0, .string ByteArray.empty, .slice none 0 0, .string ByteArray.empty, iX 0] 54 fun w20 b21 hb22 hz23 hB24 hc25 => ?_)
 have hlo26 : w.heap.size ≤ b21 := by rw [hb22]; exact Ch.size hu17
 have hu27 := Up.step hu17 hc25 iZ
 have hp28 := hp18.ch hc25 iZ
 have hU29 := utabs_ch hc25 hU19 id id
 have hB30 := hB14.ch hc25 id
 refine yp 3 [] .z <| ye <| x_scope 0 ([(1, uX c), (2, pX b11), (4, pX b21), (5, .slice none 0 0)]) (fun u => (p.state = 7 ∧ c ≠ 92) ∧ Blk u b11 [iX 1, uX 0, uX 0, uX 0, iX 0, .string ByteArray.empty, .slice none 0 0, .string ByteArray.empty, iX 0] 54 ∧ Blk u b21 [iX 0, uX 0, uX 0, uX 0, iX 0, .string ByteArray.empty, .slice none 0 0, .string ByteArray.empty, iX 0] 54 ∧ Up w.heap.size w u) rfl ?_ (fun u31 hJ32 => ?_)
 ·refine ys <| x_label (nS ?_)
  refine ys <| x_block <| ysr <| yp 4 [] (.l (hB30.c 0) .z) <| ye <| yc (rE p.state 0) (fun hC33 => ?_) fun hC33 => ?_
  ·have hpp0 := hC33
   refine ysr <| yp 2 [] (.a (hB30.cs 0 9) .z) <| yo (yC (ground_any hp28 c hcB hU29 hp) ?_)
   rintro _ w43 ⟨qo34, qn35, qc36, ao37, an38, ac39, rfl, hq40, ha41, hc42⟩
   refine ⟨_, rfl, ?_⟩
   have hold44 : b11 < w20.heap.size := hB30.lt
   have hold45 : b21 < w20.heap.size := hB24.lt
   have hu46 := Up.step hu27 hc42 iZ
   have hB50 := hB24.ch hc42 id
   have hs51 : w43.heap.size ≤ w43.heap.size := Nat.le_refl _
   refine yp 5 [] .z <| yo (yS hB50 fun w52 hB53 hc54 => ?_)
   have hu55 := Up.step hu46 hc54 (fun i hi (h : i = b21) => by omega)
   have hq59 := hq40.ch hc54 (fun b hb (e : b = b21) => hb.elim (fun hb => by have := (hP.2.2.2 b hb).2; have := hlo26; omega) (fun hb => by have := hold45; omega))
   have ha60 := ha41.ch hc54 (fun b hb (e : b = b21) => by have := hold45; omega)
   have hs61 := Nat.le_trans hs51 (Ch.size hc54)
   replace hB53 : Blk w52 b21 [iX (groundP p c).1.state, uX (groundP p c).1.utf.b0, uX (groundP p c).1.utf.b1, uX (groundP p c).1.utf.b2, iX (groundP p c).1.utf.n, .string (groundP p c).1.marks, .slice (qo34.map at0) qn35 qc36, .string (groundP p c).1.text, iX (groundP p c).1.within] _ := Blk.to hB53 (by kernel_rfl)
   refine yp 7 [] .z <| ye <| x_ret (rB (rS (jump_ret (yR2 [.agg #[iX (groundP p c).1.state, uX (groundP p c).1.utf.b0, uX (groundP p c).1.utf.b1, uX (groundP p c).1.utf.b2, iX (groundP p c).1.utf.n, .string (groundP p c).1.marks, .slice (qo34.map at0) qn35 qc36, .string (groundP p c).1.text, iX (groundP p c).1.within], .slice (ao37.map at0) an38 ac39] (.a (hB53.cs 0 9) .z) ?_))))
   have hpre := Ch.size hu27
   refine Fed.mk2 (p' := (groundP p c).1) (l := (groundP p c).2) qo34 qn35 qc36 ao37 an38 ac39 rfl (hq59.mono fun b hb => hb.imp id fun h => ⟨by omega, by omega⟩) (ha60.mono fun b h => ⟨⟨by omega, by omega⟩, h.2⟩) (Up.ch hu55) ?_
   simp only [feedP, feedP1, hpp0, ↓reduceIte, Int.reduceEq, Int.reduceLE, Int.reduceLT, reduceCtorEq, and_true, and_self, true_and, or_true, true_or, or_false, false_or, and_false, false_and, ne_eq, not_true, not_false_iff]
  have hpp0 := hC33
  refine ysr <| yp 4 [] (.l (hB30.c 0) .z) <| ye <| yc (rE p.state 7) (fun hC62 => ?_) fun hC62 => ?_
  ·have hpp1 := hC62
   refine ys <| ysr <| yp 2 [] .z <| ye <| yc (rE c 92) (fun hC63 => ?_) fun hC63 => ?_
   ·have hpp2 := hC63
    refine ysr <| yp 3 [] (.a (hB30.cs 0 9) (.l (hB30.c 8) .z)) <| yo (yC (finish_any hp28 p.within ) ?_)
    rintro _ w73 ⟨qo64, qn65, qc66, ao67, an68, ac69, rfl, hq70, ha71, hc72⟩
    refine ⟨_, rfl, ?_⟩
    have hold74 : b11 < w20.heap.size := hB30.lt
    have hold75 : b21 < w20.heap.size := hB24.lt
    have hu76 := Up.step hu27 hc72 iZ
    have hB80 := hB24.ch hc72 id
    have hs81 : w73.heap.size ≤ w73.heap.size := Nat.le_refl _
    refine yp 6 [] .z <| yo (yS hB80 fun w82 hB83 hc84 => ?_)
    have hu85 := Up.step hu76 hc84 (fun i hi (h : i = b21) => by omega)
    have hq89 := hq70.ch hc84 (fun b hb (e : b = b21) => hb.elim (fun hb => by have := (hP.2.2.2 b hb).2; have := hlo26; omega) (fun hb => by have := hold75; omega))
    have ha90 := ha71.ch hc84 (fun b hb (e : b = b21) => by have := hold75; omega)
    have hs91 := Nat.le_trans hs81 (Ch.size hc84)
    replace hB83 : Blk w82 b21 [iX (finishP p p.within).1.state, uX (finishP p p.within).1.utf.b0, uX (finishP p p.within).1.utf.b1, uX (finishP p p.within).1.utf.b2, iX (finishP p p.within).1.utf.n, .string (finishP p p.within).1.marks, .slice (qo64.map at0) qn65 qc66, .string (finishP p p.within).1.text, iX (finishP p p.within).1.within] _ := Blk.to hB83 (by kernel_rfl)
    refine yp 8 [] .z <| ye <| x_ret (rS (rB (rS (jump_ret (yR2 [.agg #[iX (finishP p p.within).1.state, uX (finishP p p.within).1.utf.b0, uX (finishP p p.within).1.utf.b1, uX (finishP p p.within).1.utf.b2, iX (finishP p p.within).1.utf.n, .string (finishP p p.within).1.marks, .slice (qo64.map at0) qn65 qc66, .string (finishP p p.within).1.text, iX (finishP p p.within).1.within], .slice (ao67.map at0) an68 ac69] (.a (hB83.cs 0 9) .z) ?_)))))
    have hpre := Ch.size hu27
    refine Fed.mk2 (p' := (finishP p p.within).1) (l := (finishP p p.within).2) qo64 qn65 qc66 ao67 an68 ac69 rfl (hq89.mono fun b hb => hb.imp id fun h => ⟨by omega, by omega⟩) (ha90.mono fun b h => ⟨⟨by omega, by omega⟩, h.2⟩) (Up.ch hu85) ?_
    simp only [feedP, feedP1, hpp0, hpp1, hpp2, ↓reduceIte, Int.reduceEq, Int.reduceLE, Int.reduceLT, reduceCtorEq, and_true, and_self, true_and, or_true, true_or, or_false, false_or, and_false, false_and, ne_eq, not_true, not_false_iff]
   have hpp2 := hC63
   refine yk <| ysr <| yo (yQ (pat_any 1 _) fun w93 hc92 => ?_)
   have hu94 := Up.step hu27 hc92 iZ
   have hB97 := hB30.ch hc92 id
   have hB98 := hB24.ch hc92 id
   refine yo (yS hB97 fun w99 hB100 hc101 => ?_)
   have hu102 := Up.step hu94 hc101 (fun i hi (h : i = b11) => by omega)
   have hB105 := hB98.ch hc101 (fun (h : b21 = b11) => by have := hB14.lt; omega)
   replace hB100 : Blk w99 b11 [iX 1, uX 0, uX 0, uX 0, iX 0, .string ByteArray.empty, .slice none 0 0, .string ByteArray.empty, iX 0] _ := Blk.to hB100 (by kernel_rfl)
   refine ye <| ykeep [1, 2, 4, 5] (f' := [(1, uX c), (2, pX b11), (4, pX b21), (5, .slice none 0 0)]) ?_
   exact x_goto (block_goto (gS (jump_goto ⟨⟨hpp1, hpp2⟩, hB100, hB105, hu102⟩)))
  have hpp1 := hC62
  refine ysr <| yp 4 [] (.l (hB30.c 0) .z) <| ye <| yc (rM 5 p.state) (fun hC106 => ?_) fun hC106 => ?_
  ·have hpp2 := hC106
   refine ysr <| yp 2 [] (.a (hB30.cs 0 9) .z) <| yo (yC (string_any hp28 c (by have := hp.t; omega)) ?_)
   rintro _ w116 ⟨qo107, qn108, qc109, ao110, an111, ac112, rfl, hq113, ha114, hc115⟩
   refine ⟨_, rfl, ?_⟩
   have hold117 : b11 < w20.heap.size := hB30.lt
   have hold118 : b21 < w20.heap.size := hB24.lt
   have hu119 := Up.step hu27 hc115 iZ
   have hB123 := hB24.ch hc115 id
   have hs124 : w116.heap.size ≤ w116.heap.size := Nat.le_refl _
   refine yp 5 [] .z <| yo (yS hB123 fun w125 hB126 hc127 => ?_)
   have hu128 := Up.step hu119 hc127 (fun i hi (h : i = b21) => by omega)
   have hq132 := hq113.ch hc127 (fun b hb (e : b = b21) => hb.elim (fun hb => by have := (hP.2.2.2 b hb).2; have := hlo26; omega) (fun hb => by have := hold118; omega))
   have ha133 := ha114.ch hc127 (fun b hb (e : b = b21) => by have := hold118; omega)
   have hs134 := Nat.le_trans hs124 (Ch.size hc127)
   replace hB126 : Blk w125 b21 [iX (stringP p c).1.state, uX (stringP p c).1.utf.b0, uX (stringP p c).1.utf.b1, uX (stringP p c).1.utf.b2, iX (stringP p c).1.utf.n, .string (stringP p c).1.marks, .slice (qo107.map at0) qn108 qc109, .string (stringP p c).1.text, iX (stringP p c).1.within] _ := Blk.to hB126 (by kernel_rfl)
   refine yp 7 [] .z <| ye <| x_ret (rB (rS (jump_ret (yR2 [.agg #[iX (stringP p c).1.state, uX (stringP p c).1.utf.b0, uX (stringP p c).1.utf.b1, uX (stringP p c).1.utf.b2, iX (stringP p c).1.utf.n, .string (stringP p c).1.marks, .slice (qo107.map at0) qn108 qc109, .string (stringP p c).1.text, iX (stringP p c).1.within], .slice (ao110.map at0) an111 ac112] (.a (hB126.cs 0 9) .z) ?_))))
   have hpre := Ch.size hu27
   refine Fed.mk2 (p' := (stringP p c).1) (l := (stringP p c).2) qo107 qn108 qc109 ao110 an111 ac112 rfl (hq132.mono fun b hb => hb.imp id fun h => ⟨by omega, by omega⟩) (ha133.mono fun b h => ⟨⟨by omega, by omega⟩, h.2⟩) (Up.ch hu128) ?_
   simp only [feedP, feedP1, hpp0, hpp1, hpp2, ↓reduceIte, Int.reduceEq, Int.reduceLE, Int.reduceLT, reduceCtorEq, and_true, and_self, true_and, or_true, true_or, or_false, false_or, and_false, false_and, ne_eq, not_true, not_false_iff]
  have hpp2 := hC106
  refine ysr <| yp 3 [] .z <| yw [40] (rE c 24) (fun hC135 => ?_) fun hC135 => ?_
  ·have hpp3 := hC135
   refine yp 7 [] .z <| ye <| yct <| ysr <| yo (yQ (pat_any 0 _) fun w137 hc136 => ?_)
   have hu138 := Up.step hu27 hc136 iZ
   have hB142 := hB24.ch hc136 id
   refine yo (yS hB142 fun w143 hB144 hc145 => ?_)
   have hu146 := Up.step hu138 hc145 (fun i hi (h : i = b21) => by omega)
   replace hB144 : Blk w143 b21 [iX 0, uX 0, uX 0, uX 0, iX 0, .string ByteArray.empty, .slice none 0 0, .string ByteArray.empty, iX 0] _ := Blk.to hB144 (by kernel_rfl)
   refine yp 3 [] .z <| ye <| x_ret (rB (rS (jump_ret (yR2 [.agg #[iX 0, uX 0, uX 0, uX 0, iX 0, .string ByteArray.empty, .slice none 0 0, .string ByteArray.empty, iX 0], .slice none 0 0] (.a (hB144.cs 0 9) .z) ?_))))
   refine Fed.mk' (p' := (PS.mk 0 ⟨0, 0, 0, 0⟩ ByteArray.empty [] ByteArray.empty 0)) (l := []) none 0 0 none 0 0 (.inl ⟨rfl, rfl, rfl, rfl⟩) rfl (IntsAt.nil _ _ _) (ActsAt.nil _ _) (Up.ch hu146) ?_
   simp only [feedP, feedP1, atP, acX, hpp0, hpp1, hpp2, hpp3, ↓reduceIte, Int.reduceEq, Int.reduceLE, Int.reduceLT, reduceCtorEq, and_true, and_self, true_and, or_true, true_or, or_false, false_or, and_false, false_and, ne_eq, not_true, not_false_iff]
  have hpp3 := hC135
  refine yp 7 [] .z <| ye <| yc (rE c 26) (fun hC150 => ?_) fun hC150 => ?_
  ·have hpp4 := hC150
   refine ysr <| yo (yQ (pat_any 0 _) fun w152 hc151 => ?_)
   have hu153 := Up.step hu27 hc151 iZ
   have hB157 := hB24.ch hc151 id
   refine yo (yS hB157 fun w158 hB159 hc160 => ?_)
   have hu161 := Up.step hu153 hc160 (fun i hi (h : i = b21) => by omega)
   replace hB159 : Blk w158 b21 [iX 0, uX 0, uX 0, uX 0, iX 0, .string ByteArray.empty, .slice none 0 0, .string ByteArray.empty, iX 0] _ := Blk.to hB159 (by kernel_rfl)
   refine yp 3 [] .z <| ye <| x_ret (rB (rS (jump_ret (yR2 [.agg #[iX 0, uX 0, uX 0, uX 0, iX 0, .string ByteArray.empty, .slice none 0 0, .string ByteArray.empty, iX 0], .slice none 0 0] (.a (hB159.cs 0 9) .z) ?_))))
   refine Fed.mk' (p' := (PS.mk 0 ⟨0, 0, 0, 0⟩ ByteArray.empty [] ByteArray.empty 0)) (l := []) none 0 0 none 0 0 (.inl ⟨rfl, rfl, rfl, rfl⟩) rfl (IntsAt.nil _ _ _) (ActsAt.nil _ _) (Up.ch hu161) ?_
   simp only [feedP, feedP1, atP, acX, hpp0, hpp1, hpp2, hpp3, hpp4, ↓reduceIte, Int.reduceEq, Int.reduceLE, Int.reduceLT, reduceCtorEq, and_true, and_self, true_and, or_true, true_or, or_false, false_or, and_false, false_and, ne_eq, not_true, not_false_iff]
  have hpp4 := hC150
  refine ysr <| yp 3 [] .z <| ye <| yc (rE c 27) (fun hC165 => ?_) fun hC165 => ?_
  ·have hpp5 := hC165
   refine ysr <| yo (yQ (pat_any 1 _) fun w167 hc166 => ?_)
   have hu168 := Up.step hu27 hc166 iZ
   have hB172 := hB24.ch hc166 id
   refine yo (yS hB172 fun w173 hB174 hc175 => ?_)
   have hu176 := Up.step hu168 hc175 (fun i hi (h : i = b21) => by omega)
   replace hB174 : Blk w173 b21 [iX 1, uX 0, uX 0, uX 0, iX 0, .string ByteArray.empty, .slice none 0 0, .string ByteArray.empty, iX 0] _ := Blk.to hB174 (by kernel_rfl)
   refine yp 3 [] .z <| ye <| x_ret (rB (rS (jump_ret (yR2 [.agg #[iX 1, uX 0, uX 0, uX 0, iX 0, .string ByteArray.empty, .slice none 0 0, .string ByteArray.empty, iX 0], .slice none 0 0] (.a (hB174.cs 0 9) .z) ?_))))
   refine Fed.mk' (p' := (PS.mk 1 ⟨0, 0, 0, 0⟩ ByteArray.empty [] ByteArray.empty 0)) (l := []) none 0 0 none 0 0 (.inl ⟨rfl, rfl, rfl, rfl⟩) rfl (IntsAt.nil _ _ _) (ActsAt.nil _ _) (Up.ch hu176) ?_
   simp only [feedP, feedP1, atP, acX, hpp0, hpp1, hpp2, hpp3, hpp4, hpp5, ↓reduceIte, Int.reduceEq, Int.reduceLE, Int.reduceLT, reduceCtorEq, and_true, and_self, true_and, or_true, true_or, or_false, false_or, and_false, false_and, ne_eq, not_true, not_false_iff]
  have hpp5 := hC165
  refine ysr <| yp 3 [] .z <| ye <| yc (rL c 32) (fun hC180 => ?_) fun hC180 => ?_
  ·have hpp6 := hC180
   refine ysr <| yp 3 [] (.a (hB30.cs 0 9) .z) <| yo (yB [iX 1, rX 0, uX c, .string ByteArray.empty, .slice none 0 0, .string ByteArray.empty] 78 1 fun w181 b182 hb183 hz184 hB185 hc186 => ?_)
   have hlo187 : w.heap.size ≤ b182 := by rw [hb183]; exact Ch.size hu27
   have hu188 := Up.step hu27 hc186 iZ
   have hp189 := hp28.ch hc186 iZ
   have hB192 := hB24.ch hc186 id
   refine yo (yS hB192 fun w193 hB194 hc195 => ?_)
   have hu196 := Up.step hu188 hc195 (fun i hi (h : i = b21) => by omega)
   have hp197 := hp189.ch hc195 (fun b hb (e : b = b21) => by have := (hP.2.2.2 b hb).2; have := hlo26; omega)
   have hB200 := hB185.ch hc195 (fun (h : b182 = b21) => by have := hB24.lt; omega)
   replace hB194 : Blk w193 b21 [iX p.state, uX p.utf.b0, uX p.utf.b1, uX p.utf.b2, iX p.utf.n, .string p.marks, .slice (po.map at0) pn pc, .string p.text, iX p.within] _ := Blk.to hB194 (by kernel_rfl)
   refine yp 6 [] .z <| ye <| x_ret (rB (rS (jump_ret (yR2 [.agg #[iX p.state, uX p.utf.b0, uX p.utf.b1, uX p.utf.b2, iX p.utf.n, .string p.marks, .slice (po.map at0) pn pc, .string p.text, iX p.within], .slice (some ⟨b182, 0, none⟩) 1 1] (.a (hB194.cs 0 9) .z) ?_))))
   refine Fed.mk' (p' := (PS.mk p.state ⟨p.utf.b0, p.utf.b1, p.utf.b2, p.utf.n⟩ p.marks p.params p.text p.within)) (l := [Ac.mk 1 0 c ByteArray.empty [] ByteArray.empty]) po pn pc (some b182) 1 1 (.inr (fun b h => (hP.2.2.2 b h).2)) rfl (hp197.old) (ActsAt.one hB200 ⟨by have := Ch.size hu196; omega, hB200.lt⟩ ⟨none, 0, 0, rfl, IntsAt.nil _ _ _⟩) (Up.ch hu196) ?_
   simp only [feedP, feedP1, atP, acX, hpp0, hpp1, hpp2, hpp3, hpp4, hpp5, hpp6, ↓reduceIte, Int.reduceEq, Int.reduceLE, Int.reduceLT, reduceCtorEq, and_true, and_self, true_and, or_true, true_or, or_false, false_or, and_false, false_and, ne_eq, not_true, not_false_iff]
  have hpp6 := hC180
  refine ysr <| yp 3 [] .z <| ye <| yc (rM 127 c) (fun hC201 => ?_) fun hC201 => ?_
  ·have hpp7 := hC201
   refine ysr <| yp 1 [] (.a (hB30.cs 0 9) .z) <| yo (yS hB24 fun w202 hB203 hc204 => ?_)
   have hu205 := Up.step hu27 hc204 (fun i hi (h : i = b21) => by omega)
   have hp206 := hp28.ch hc204 (fun b hb (e : b = b21) => by have := (hP.2.2.2 b hb).2; have := hlo26; omega)
   replace hB203 : Blk w202 b21 [iX p.state, uX p.utf.b0, uX p.utf.b1, uX p.utf.b2, iX p.utf.n, .string p.marks, .slice (po.map at0) pn pc, .string p.text, iX p.within] _ := Blk.to hB203 (by kernel_rfl)
   refine yp 3 [] .z <| ye <| x_ret (rB (rS (jump_ret (yR2 [.agg #[iX p.state, uX p.utf.b0, uX p.utf.b1, uX p.utf.b2, iX p.utf.n, .string p.marks, .slice (po.map at0) pn pc, .string p.text, iX p.within], .slice none 0 0] (.a (hB203.cs 0 9) .z) ?_))))
   refine Fed.mk' (p' := (PS.mk p.state ⟨p.utf.b0, p.utf.b1, p.utf.b2, p.utf.n⟩ p.marks p.params p.text p.within)) (l := []) po pn pc none 0 0 (.inl ⟨rfl, rfl, rfl, rfl⟩) rfl (hp206.old) (ActsAt.nil _ _) (Up.ch hu205) ?_
   simp only [feedP, feedP1, atP, acX, hpp0, hpp1, hpp2, hpp3, hpp4, hpp5, hpp6, hpp7, ↓reduceIte, Int.reduceEq, Int.reduceLE, Int.reduceLT, reduceCtorEq, and_true, and_self, true_and, or_true, true_or, or_false, false_or, and_false, false_and, ne_eq, not_true, not_false_iff]
  have hpp7 := hC201
  refine ysr <| yp 4 [] (.l (hB30.c 0) .z) <| yw [64] (rE p.state 3) (fun hC209 => ?_) fun hC209 => ?_
  ·have hpp8 := hC209
   refine yp 9 [] .z <| ye <| yct <| ysr <| yp 2 [] (.a (hB30.cs 0 9) .z) <| yo (yC (csi_any hp28 c hcB (by have := hp.m; omega) hn8 hp.b) ?_)
   rintro _ w219 ⟨qo210, qn211, qc212, ao213, an214, ac215, rfl, hq216, ha217, hc218⟩
   refine ⟨_, rfl, ?_⟩
   have hold220 : b11 < w20.heap.size := hB30.lt
   have hold221 : b21 < w20.heap.size := hB24.lt
   have hu222 := Up.step hu27 hc218 iZ
   have hB226 := hB24.ch hc218 id
   have hs227 : w219.heap.size ≤ w219.heap.size := Nat.le_refl _
   refine yp 5 [] .z <| yo (yS hB226 fun w228 hB229 hc230 => ?_)
   have hu231 := Up.step hu222 hc230 (fun i hi (h : i = b21) => by omega)
   have hq235 := hq216.ch hc230 (fun b hb (e : b = b21) => hb.elim (fun hb => by have := (hP.2.2.2 b hb).2; have := hlo26; omega) (fun hb => by have := hold221; omega))
   have ha236 := ha217.ch hc230 (fun b hb (e : b = b21) => by have := hold221; omega)
   have hs237 := Nat.le_trans hs227 (Ch.size hc230)
   replace hB229 : Blk w228 b21 [iX (csiP p c).1.state, uX (csiP p c).1.utf.b0, uX (csiP p c).1.utf.b1, uX (csiP p c).1.utf.b2, iX (csiP p c).1.utf.n, .string (csiP p c).1.marks, .slice (qo210.map at0) qn211 qc212, .string (csiP p c).1.text, iX (csiP p c).1.within] _ := Blk.to hB229 (by kernel_rfl)
   refine yp 7 [] .z <| ye <| x_ret (rB (rS (jump_ret (yR2 [.agg #[iX (csiP p c).1.state, uX (csiP p c).1.utf.b0, uX (csiP p c).1.utf.b1, uX (csiP p c).1.utf.b2, iX (csiP p c).1.utf.n, .string (csiP p c).1.marks, .slice (qo210.map at0) qn211 qc212, .string (csiP p c).1.text, iX (csiP p c).1.within], .slice (ao213.map at0) an214 ac215] (.a (hB229.cs 0 9) .z) ?_))))
   have hpre := Ch.size hu27
   refine Fed.mk2 (p' := (csiP p c).1) (l := (csiP p c).2) qo210 qn211 qc212 ao213 an214 ac215 rfl (hq235.mono fun b hb => hb.imp id fun h => ⟨by omega, by omega⟩) (ha236.mono fun b h => ⟨⟨by omega, by omega⟩, h.2⟩) (Up.ch hu231) ?_
   simp only [feedP, feedP1, hpp0, hpp1, hpp2, hpp3, hpp4, hpp5, hpp6, hpp7, hpp8, ↓reduceIte, Int.reduceEq, Int.reduceLE, Int.reduceLT, reduceCtorEq, and_true, and_self, true_and, or_true, true_or, or_false, false_or, and_false, false_and, ne_eq, not_true, not_false_iff]
  have hpp8 := hC209
  refine yp 9 [] (.l (hB30.c 0) .z) <| ye <| yc (rE p.state 4) (fun hC238 => ?_) fun hC238 => ?_
  ·have hpp9 := hC238
   refine ysr <| yp 2 [] (.a (hB30.cs 0 9) .z) <| yo (yC (csi_any hp28 c hcB (by have := hp.m; omega) hn8 hp.b) ?_)
   rintro _ w248 ⟨qo239, qn240, qc241, ao242, an243, ac244, rfl, hq245, ha246, hc247⟩
   refine ⟨_, rfl, ?_⟩
   have hold249 : b11 < w20.heap.size := hB30.lt
   have hold250 : b21 < w20.heap.size := hB24.lt
   have hu251 := Up.step hu27 hc247 iZ
   have hB255 := hB24.ch hc247 id
   have hs256 : w248.heap.size ≤ w248.heap.size := Nat.le_refl _
   refine yp 5 [] .z <| yo (yS hB255 fun w257 hB258 hc259 => ?_)
   have hu260 := Up.step hu251 hc259 (fun i hi (h : i = b21) => by omega)
   have hq264 := hq245.ch hc259 (fun b hb (e : b = b21) => hb.elim (fun hb => by have := (hP.2.2.2 b hb).2; have := hlo26; omega) (fun hb => by have := hold250; omega))
   have ha265 := ha246.ch hc259 (fun b hb (e : b = b21) => by have := hold250; omega)
   have hs266 := Nat.le_trans hs256 (Ch.size hc259)
   replace hB258 : Blk w257 b21 [iX (csiP p c).1.state, uX (csiP p c).1.utf.b0, uX (csiP p c).1.utf.b1, uX (csiP p c).1.utf.b2, iX (csiP p c).1.utf.n, .string (csiP p c).1.marks, .slice (qo239.map at0) qn240 qc241, .string (csiP p c).1.text, iX (csiP p c).1.within] _ := Blk.to hB258 (by kernel_rfl)
   refine yp 7 [] .z <| ye <| x_ret (rB (rS (jump_ret (yR2 [.agg #[iX (csiP p c).1.state, uX (csiP p c).1.utf.b0, uX (csiP p c).1.utf.b1, uX (csiP p c).1.utf.b2, iX (csiP p c).1.utf.n, .string (csiP p c).1.marks, .slice (qo239.map at0) qn240 qc241, .string (csiP p c).1.text, iX (csiP p c).1.within], .slice (ao242.map at0) an243 ac244] (.a (hB258.cs 0 9) .z) ?_))))
   have hpre := Ch.size hu27
   refine Fed.mk2 (p' := (csiP p c).1) (l := (csiP p c).2) qo239 qn240 qc241 ao242 an243 ac244 rfl (hq264.mono fun b hb => hb.imp id fun h => ⟨by omega, by omega⟩) (ha265.mono fun b h => ⟨⟨by omega, by omega⟩, h.2⟩) (Up.ch hu260) ?_
   simp only [feedP, feedP1, hpp0, hpp1, hpp2, hpp3, hpp4, hpp5, hpp6, hpp7, hpp8, hpp9, ↓reduceIte, Int.reduceEq, Int.reduceLE, Int.reduceLT, reduceCtorEq, and_true, and_self, true_and, or_true, true_or, or_false, false_or, and_false, false_and, ne_eq, not_true, not_false_iff]
  have hpp9 := hC238
  refine x_skip (nB (nS ?_))
  refine ysr <| yp 2 [] (.a (hB30.cs 0 9) .z) <| yo (yC (escape_any hp28 c ) ?_)
  rintro _ w276 ⟨qo267, qn268, qc269, ao270, an271, ac272, rfl, hq273, ha274, hc275⟩
  refine ⟨_, rfl, ?_⟩
  have hold277 : b11 < w20.heap.size := hB30.lt
  have hold278 : b21 < w20.heap.size := hB24.lt
  have hu279 := Up.step hu27 hc275 iZ
  have hB283 := hB24.ch hc275 id
  have hs284 : w276.heap.size ≤ w276.heap.size := Nat.le_refl _
  refine yp 5 [] .z <| yo (yS hB283 fun w285 hB286 hc287 => ?_)
  have hu288 := Up.step hu279 hc287 (fun i hi (h : i = b21) => by omega)
  have hq292 := hq273.ch hc287 (fun b hb (e : b = b21) => hb.elim (fun hb => by have := (hP.2.2.2 b hb).2; have := hlo26; omega) (fun hb => by have := hold278; omega))
  have ha293 := ha274.ch hc287 (fun b hb (e : b = b21) => by have := hold278; omega)
  have hs294 := Nat.le_trans hs284 (Ch.size hc287)
  replace hB286 : Blk w285 b21 [iX (escapeP p c).1.state, uX (escapeP p c).1.utf.b0, uX (escapeP p c).1.utf.b1, uX (escapeP p c).1.utf.b2, iX (escapeP p c).1.utf.n, .string (escapeP p c).1.marks, .slice (qo267.map at0) qn268 qc269, .string (escapeP p c).1.text, iX (escapeP p c).1.within] _ := Blk.to hB286 (by kernel_rfl)
  refine yp 7 [] .z <| ye <| x_ret (jump_ret (yR2 [.agg #[iX (escapeP p c).1.state, uX (escapeP p c).1.utf.b0, uX (escapeP p c).1.utf.b1, uX (escapeP p c).1.utf.b2, iX (escapeP p c).1.utf.n, .string (escapeP p c).1.marks, .slice (qo267.map at0) qn268 qc269, .string (escapeP p c).1.text, iX (escapeP p c).1.within], .slice (ao270.map at0) an271 ac272] (.a (hB286.cs 0 9) .z) ?_))
  have hpre := Ch.size hu27
  refine Fed.mk2 (p' := (escapeP p c).1) (l := (escapeP p c).2) qo267 qn268 qc269 ao270 an271 ac272 rfl (hq292.mono fun b hb => hb.imp id fun h => ⟨by omega, by omega⟩) (ha293.mono fun b h => ⟨⟨by omega, by omega⟩, h.2⟩) (Up.ch hu288) ?_
  simp only [feedP, feedP1, hpp0, hpp1, hpp2, hpp3, hpp4, hpp5, hpp6, hpp7, hpp8, hpp9, ↓reduceIte, Int.reduceEq, Int.reduceLE, Int.reduceLT, reduceCtorEq, and_true, and_self, true_and, or_true, true_or, or_false, false_or, and_false, false_and, ne_eq, not_true, not_false_iff]
 obtain ⟨hs7, hj295⟩ := hJ32
 obtain ⟨hB296, hB297, hu298⟩ := hj295
 have hpp0 : p.state = 7 := hs7.1
 have hpp1 : c ≠ 92 := hs7.2
 refine ys <| yk <| ys <| x_block <| ysr <| yp 4 [] (.l (hB296.c 0) .z) <| ye <| ycf <| ysr <| yp 4 [] (.l (hB296.c 0) .z) <| ye <| ycf <| ysr <| yp 4 [] (.l (hB296.c 0) .z) <| ye <| ycf <| ysr <| yp 3 [] .z <| yw [40] (rE c 24) (fun hC299 => ?_) fun hC299 => ?_
 ·have hpp2 := hC299
  refine yp 7 [] .z <| ye <| yct <| ysr <| yo (yQ (pat_any 0 _) fun w301 hc300 => ?_)
  have hu302 := Up.step hu298 hc300 iZ
  have hB304 := hB297.ch hc300 id
  refine yo (yS hB304 fun w305 hB306 hc307 => ?_)
  have hu308 := Up.step hu302 hc307 (fun i hi (h : i = b21) => by omega)
  replace hB306 : Blk w305 b21 [iX 0, uX 0, uX 0, uX 0, iX 0, .string ByteArray.empty, .slice none 0 0, .string ByteArray.empty, iX 0] _ := Blk.to hB306 (by kernel_rfl)
  refine yp 3 [] .z <| ye <| x_ret (rB (rS (jump_ret (yR2 [.agg #[iX 0, uX 0, uX 0, uX 0, iX 0, .string ByteArray.empty, .slice none 0 0, .string ByteArray.empty, iX 0], .slice none 0 0] (.a (hB306.cs 0 9) .z) ?_))))
  refine Fed.mk' (p' := (PS.mk 0 ⟨0, 0, 0, 0⟩ ByteArray.empty [] ByteArray.empty 0)) (l := []) none 0 0 none 0 0 (.inl ⟨rfl, rfl, rfl, rfl⟩) rfl (IntsAt.nil _ _ _) (ActsAt.nil _ _) (Up.ch hu308) ?_
  simp only [feedP, feedP1, atP, acX, hpp0, hpp1, hpp2, ↓reduceIte, Int.reduceEq, Int.reduceLE, Int.reduceLT, reduceCtorEq, and_true, and_self, true_and, or_true, true_or, or_false, false_or, and_false, false_and, ne_eq, not_true, not_false_iff]
 have hpp2 := hC299
 refine yp 7 [] .z <| ye <| yc (rE c 26) (fun hC310 => ?_) fun hC310 => ?_
 ·have hpp3 := hC310
  refine ysr <| yo (yQ (pat_any 0 _) fun w312 hc311 => ?_)
  have hu313 := Up.step hu298 hc311 iZ
  have hB315 := hB297.ch hc311 id
  refine yo (yS hB315 fun w316 hB317 hc318 => ?_)
  have hu319 := Up.step hu313 hc318 (fun i hi (h : i = b21) => by omega)
  replace hB317 : Blk w316 b21 [iX 0, uX 0, uX 0, uX 0, iX 0, .string ByteArray.empty, .slice none 0 0, .string ByteArray.empty, iX 0] _ := Blk.to hB317 (by kernel_rfl)
  refine yp 3 [] .z <| ye <| x_ret (rB (rS (jump_ret (yR2 [.agg #[iX 0, uX 0, uX 0, uX 0, iX 0, .string ByteArray.empty, .slice none 0 0, .string ByteArray.empty, iX 0], .slice none 0 0] (.a (hB317.cs 0 9) .z) ?_))))
  refine Fed.mk' (p' := (PS.mk 0 ⟨0, 0, 0, 0⟩ ByteArray.empty [] ByteArray.empty 0)) (l := []) none 0 0 none 0 0 (.inl ⟨rfl, rfl, rfl, rfl⟩) rfl (IntsAt.nil _ _ _) (ActsAt.nil _ _) (Up.ch hu319) ?_
  simp only [feedP, feedP1, atP, acX, hpp0, hpp1, hpp2, hpp3, ↓reduceIte, Int.reduceEq, Int.reduceLE, Int.reduceLT, reduceCtorEq, and_true, and_self, true_and, or_true, true_or, or_false, false_or, and_false, false_and, ne_eq, not_true, not_false_iff]
 have hpp3 := hC310
 refine ysr <| yp 3 [] .z <| ye <| yc (rE c 27) (fun hC321 => ?_) fun hC321 => ?_
 ·have hpp4 := hC321
  refine ysr <| yo (yQ (pat_any 1 _) fun w323 hc322 => ?_)
  have hu324 := Up.step hu298 hc322 iZ
  have hB326 := hB297.ch hc322 id
  refine yo (yS hB326 fun w327 hB328 hc329 => ?_)
  have hu330 := Up.step hu324 hc329 (fun i hi (h : i = b21) => by omega)
  replace hB328 : Blk w327 b21 [iX 1, uX 0, uX 0, uX 0, iX 0, .string ByteArray.empty, .slice none 0 0, .string ByteArray.empty, iX 0] _ := Blk.to hB328 (by kernel_rfl)
  refine yp 3 [] .z <| ye <| x_ret (rB (rS (jump_ret (yR2 [.agg #[iX 1, uX 0, uX 0, uX 0, iX 0, .string ByteArray.empty, .slice none 0 0, .string ByteArray.empty, iX 0], .slice none 0 0] (.a (hB328.cs 0 9) .z) ?_))))
  refine Fed.mk' (p' := (PS.mk 1 ⟨0, 0, 0, 0⟩ ByteArray.empty [] ByteArray.empty 0)) (l := []) none 0 0 none 0 0 (.inl ⟨rfl, rfl, rfl, rfl⟩) rfl (IntsAt.nil _ _ _) (ActsAt.nil _ _) (Up.ch hu330) ?_
  simp only [feedP, feedP1, atP, acX, hpp0, hpp1, hpp2, hpp3, hpp4, ↓reduceIte, Int.reduceEq, Int.reduceLE, Int.reduceLT, reduceCtorEq, and_true, and_self, true_and, or_true, true_or, or_false, false_or, and_false, false_and, ne_eq, not_true, not_false_iff]
 have hpp4 := hC321
 refine ysr <| yp 3 [] .z <| ye <| yc (rL c 32) (fun hC332 => ?_) fun hC332 => ?_
 ·have hpp5 := hC332
  refine ysr <| yp 3 [] (.a (hB296.cs 0 9) .z) <| yo (yB [iX 1, rX 0, uX c, .string ByteArray.empty, .slice none 0 0, .string ByteArray.empty] 78 1 fun w333 b334 hb335 hz336 hB337 hc338 => ?_)
  have hlo339 : w.heap.size ≤ b334 := by rw [hb335]; exact Ch.size hu298
  have hu340 := Up.step hu298 hc338 iZ
  have hB342 := hB297.ch hc338 id
  refine yo (yS hB342 fun w343 hB344 hc345 => ?_)
  have hu346 := Up.step hu340 hc345 (fun i hi (h : i = b21) => by omega)
  have hB348 := hB337.ch hc345 (fun (h : b334 = b21) => by have := hB297.lt; omega)
  replace hB344 : Blk w343 b21 [iX 1, uX 0, uX 0, uX 0, iX 0, .string ByteArray.empty, .slice none 0 0, .string ByteArray.empty, iX 0] _ := Blk.to hB344 (by kernel_rfl)
  refine yp 6 [] .z <| ye <| x_ret (rB (rS (jump_ret (yR2 [.agg #[iX 1, uX 0, uX 0, uX 0, iX 0, .string ByteArray.empty, .slice none 0 0, .string ByteArray.empty, iX 0], .slice (some ⟨b334, 0, none⟩) 1 1] (.a (hB344.cs 0 9) .z) ?_))))
  refine Fed.mk' (p' := (PS.mk 1 ⟨0, 0, 0, 0⟩ ByteArray.empty [] ByteArray.empty 0)) (l := [Ac.mk 1 0 c ByteArray.empty [] ByteArray.empty]) none 0 0 (some b334) 1 1 (.inr (fun b h => by cases h)) rfl (IntsAt.nil _ _ _) (ActsAt.one hB348 ⟨by have := Ch.size hu346; omega, hB348.lt⟩ ⟨none, 0, 0, rfl, IntsAt.nil _ _ _⟩) (Up.ch hu346) ?_
  simp only [feedP, feedP1, atP, acX, hpp0, hpp1, hpp2, hpp3, hpp4, hpp5, ↓reduceIte, Int.reduceEq, Int.reduceLE, Int.reduceLT, reduceCtorEq, and_true, and_self, true_and, or_true, true_or, or_false, false_or, and_false, false_and, ne_eq, not_true, not_false_iff]
 have hpp5 := hC332
 refine ysr <| yp 3 [] .z <| ye <| yc (rM 127 c) (fun hC349 => ?_) fun hC349 => ?_
 ·have hpp6 := hC349
  refine ysr <| yp 1 [] (.a (hB296.cs 0 9) .z) <| yo (yS hB297 fun w350 hB351 hc352 => ?_)
  have hu353 := Up.step hu298 hc352 (fun i hi (h : i = b21) => by omega)
  replace hB351 : Blk w350 b21 [iX 1, uX 0, uX 0, uX 0, iX 0, .string ByteArray.empty, .slice none 0 0, .string ByteArray.empty, iX 0] _ := Blk.to hB351 (by kernel_rfl)
  refine yp 3 [] .z <| ye <| x_ret (rB (rS (jump_ret (yR2 [.agg #[iX 1, uX 0, uX 0, uX 0, iX 0, .string ByteArray.empty, .slice none 0 0, .string ByteArray.empty, iX 0], .slice none 0 0] (.a (hB351.cs 0 9) .z) ?_))))
  refine Fed.mk' (p' := (PS.mk 1 ⟨0, 0, 0, 0⟩ ByteArray.empty [] ByteArray.empty 0)) (l := []) none 0 0 none 0 0 (.inl ⟨rfl, rfl, rfl, rfl⟩) rfl (IntsAt.nil _ _ _) (ActsAt.nil _ _) (Up.ch hu353) ?_
  simp only [feedP, feedP1, atP, acX, hpp0, hpp1, hpp2, hpp3, hpp4, hpp5, hpp6, ↓reduceIte, Int.reduceEq, Int.reduceLE, Int.reduceLT, reduceCtorEq, and_true, and_self, true_and, or_true, true_or, or_false, false_or, and_false, false_and, ne_eq, not_true, not_false_iff]
 have hpp6 := hC349
 refine ysr <| yp 9 [] (.l (hB296.c 0) (.l (hB296.c 0) .z)) <| ye <| ycf <| x_skip (nB (nS ?_))
 refine ysr <| yp 2 [] (.a (hB296.cs 0 9) .z) <| yo (yC (escape_any (p := (atP 1)) (IntsAt.nil u31 .i64 _) c ) ?_)
 rintro _ w364 ⟨qo355, qn356, qc357, ao358, an359, ac360, rfl, hq361, ha362, hc363⟩
 refine ⟨_, rfl, ?_⟩
 have hold365 : b11 < u31.heap.size := hB296.lt
 have hold366 : b21 < u31.heap.size := hB297.lt
 have hu367 := Up.step hu298 hc363 iZ
 have hB369 := hB297.ch hc363 id
 have hs370 : w364.heap.size ≤ w364.heap.size := Nat.le_refl _
 refine yp 5 [] .z <| yo (yS hB369 fun w371 hB372 hc373 => ?_)
 have hu374 := Up.step hu367 hc373 (fun i hi (h : i = b21) => by omega)
 have hq376 := hq361.ch hc373 (fun b hb (e : b = b21) => hb.elim (fun hb => by cases hb) (fun hb => by have := hold366; omega))
 have ha377 := ha362.ch hc373 (fun b hb (e : b = b21) => by have := hold366; omega)
 have hs378 := Nat.le_trans hs370 (Ch.size hc373)
 replace hB372 : Blk w371 b21 [iX (escapeP (atP 1) c).1.state, uX (escapeP (atP 1) c).1.utf.b0, uX (escapeP (atP 1) c).1.utf.b1, uX (escapeP (atP 1) c).1.utf.b2, iX (escapeP (atP 1) c).1.utf.n, .string (escapeP (atP 1) c).1.marks, .slice (qo355.map at0) qn356 qc357, .string (escapeP (atP 1) c).1.text, iX (escapeP (atP 1) c).1.within] _ := Blk.to hB372 (by kernel_rfl)
 refine yp 7 [] .z <| ye <| x_ret (jump_ret (yR2 [.agg #[iX (escapeP (atP 1) c).1.state, uX (escapeP (atP 1) c).1.utf.b0, uX (escapeP (atP 1) c).1.utf.b1, uX (escapeP (atP 1) c).1.utf.b2, iX (escapeP (atP 1) c).1.utf.n, .string (escapeP (atP 1) c).1.marks, .slice (qo355.map at0) qn356 qc357, .string (escapeP (atP 1) c).1.text, iX (escapeP (atP 1) c).1.within], .slice (ao358.map at0) an359 ac360] (.a (hB372.cs 0 9) .z) ?_))
 have hpre := Ch.size hu298
 refine Fed.mk2 (p' := (escapeP (atP 1) c).1) (l := (escapeP (atP 1) c).2) qo355 qn356 qc357 ao358 an359 ac360 rfl (hq376.mono fun b hb => hb.imp (fun h => by cases h) fun h => ⟨by omega, by omega⟩) (ha377.mono fun b h => ⟨⟨by omega, by omega⟩, h.2⟩) (Up.ch hu374) ?_
 simp only [feedP, feedP1, atP_state, hpp0, hpp1, hpp2, hpp3, hpp4, hpp5, hpp6, ↓reduceIte, Int.reduceEq, Int.reduceLE, Int.reduceLT, reduceCtorEq, and_true, and_self, true_and, or_true, true_or, or_false, false_or, and_false, false_and, ne_eq, not_true, not_false_iff]
end Go.Proofs.YteoejhjfbfacdaaGreatDoor.X
