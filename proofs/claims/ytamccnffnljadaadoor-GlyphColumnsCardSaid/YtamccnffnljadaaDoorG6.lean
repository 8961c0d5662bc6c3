/- The walks of the reference's Drawn, of GlyphDraws and of GlyphColumns: printed by wip/tools/gen.py off the loaded functions. -/
import Derived.Test.YtamccnffnljadaaDoorX4
import Derived.Test.YtamccnffnljadaaDoorG4
import Derived.Test.YtamccnffnljadaaDoorG5
namespace Go.Proofs.YtamccnffnljadaaDoor.X
open Go Go.RowKit Go.Proofs.YtamccnffnljadaaDoor

theorem cell_ch {w w' : World} {B : Nat → Prop} (h : Ch B w w') {b o : Nat} {v : Value} (hc : w.cell? ⟨b, o, none⟩ = some v) (hn : ¬ B b) : w'.cell? ⟨b, o, none⟩ = some v := by
  have hlt : b < w.heap.size := by
    rcases Nat.lt_or_ge b w.heap.size with h' | h'
    · exact h'
    · simp [World.cell?, Array.getElem?_eq_none h'] at hc
  unfold World.cell? at hc ⊢
  rw [h.block b hlt hn]; exact hc
theorem tables_ch {w w' : World} {B : Nat → Prop} (h : Ch B w w') (hT : Tables w) (h0 : ¬ B 0) (h1 : ¬ B 1) : Tables w' :=
  ⟨fun j hj => cell_ch h (hT.1 j hj) h0, fun j hj => cell_ch h (hT.2 j hj) h1⟩
theorem ch_eq {w w' : World} (h : w = w') : Ch (fun _ => False) w w' := h ▸ Ch.refl _ _
theorem nums_cell {w : World} {b : Nat} {l : List Int} {T : TypeId} (h : Blk w b (l.map (Value.int .i32)) T) (j : Nat) (hj : j < l.length) : w.cell? ⟨b, j, none⟩ = some (.int .i32 (l.getD j 0)) := by
  rw [h.cell, List.getElem?_map, List.getElem?_eq_getElem hj, List.getD, List.getElem?_eq_getElem hj]; rfl
theorem among_in {r a b : Int} (h : amongB r a b = true) : a ≤ r ∧ r ≤ b := by unfold amongB at h; simpa using h
theorem among_out {r a b : Int} (h : amongB r a b = false) : ¬ (a ≤ r ∧ r ≤ b) := by unfold amongB at h; simpa using h
theorem signs_col : ∀ j, j < 31 → colsI [signsL.getD j 0] = 1 := by decide +kernel
theorem runes_one {w : World} {b : Nat} {x : Int} {T : TypeId} (h : Blk w b [.int .i32 x] T) : Runes w (some ⟨b, 0, none⟩) 1 [x] :=
  ⟨rfl, fun j hj => ⟨_, rfl, by obtain rfl : j = 0 := by omega
                                exact h.cell 0⟩⟩
theorem runes_ch {w w' : World} {B : Nat → Prop} {b off n : Nat} {l : List Int} (h : Ch B w w') (hr : Runes w (some ⟨b, off, none⟩) n l) (hn : ¬ B b) : Runes w' (some ⟨b, off, none⟩) n l :=
  ⟨hr.1, fun j hj => by
    obtain ⟨p, hp, hc⟩ := hr.2 j hj
    obtain rfl := Option.some.inj hp
    refine ⟨_, rfl, ?_⟩
    rw [add_pl] at hc ⊢
    exact cell_ch h hc hn⟩

/-- A world of which what lay below a number is as it was. -/
def Up (B : Nat) (w w' : World) : Prop := Ch (fun k => B ≤ k) w w'
theorem Up.refl (B : Nat) (w : World) : Up B w w := Ch.refl _ _
theorem Up.step {B : Nat} {w w1 w2 : World} {C : Nat → Prop} (h : Up B w w1) (k : Ch C w1 w2) (hC : ∀ i, i < B → ¬ C i) : Up B w w2 :=
  h.trans k fun i _ hi => Nat.le_of_not_lt fun hlt => hC i hlt hi
theorem Up.below {w w' : World} (h : Up w.heap.size w w') : Below w.heap.size w w' := Ch.below h fun i hi => by omega
theorem glob_lt {w : World} (h : Tables w) : 1 < w.heap.size := by
  have := h.2 0 (by decide)
  rcases Nat.lt_or_ge 1 w.heap.size with h' | h'
  · exact h'
  · simp [World.cell?, Array.getElem?_eq_none h'] at this

theorem refDrawn_in (r : Int) (w : World) (hin : 96 ≤ r ∧ r ≤ 126) : Calls Tryd.prog 15 [.int .i32 r].toArray w fun e w' => e = .returned (.int .i32 (signsL.getD (r - 96).toNat 0)) ∧ Below w.heap.size w w' := by
  refine x_enter (fn := Tryd.f15) (args := [.int .i32 r]) Tryd.func15 rfl (of_ble (by kernel_rfl)) ?_
  refine x_keep [0] (f' := [(0, .int .i32 r)]) rfl ?_
  refine x_seq (fun K1 hK2 => ?_)
  refine x_region ?_
  refine x_pure (f' := [(0, .int .i32 r)]) (cs := []) 1 [] [0] [] (by kernel_rfl) c_nil ?_
  refine x_end rfl (fun a ha => hK2 _ _ ?_ a ha)
  refine x_seq (fun K3 hK4 => ?_)
  refine x_seq (fun K5 hK6 => ?_)
  refine x_region ?_
  refine x_pure (f' := [(0, .int .i32 r), (4, .int .i32 r)]) (cs := []) 1 [] [0, 4] [] (by kernel_rfl) c_nil ?_
  refine x_eff 2 ⟨rfl, by decide⟩ (e_call (some 5) (by kernel_rfl) (among_any r 96 126 _) ?_)
  rintro e w7 ⟨rfl, hq⟩
  refine ⟨_, rfl, ?_⟩
  have hc8 := ch_eq hq
  clear hq
  have hu9 := Up.step (Up.refl w.heap.size w) hc8 (fun _ _ h => h)
  change WS _ _ _ _ 2 [(5, .bool (amongB r 96 126)), (0, .int .i32 r), (4, .int .i32 r)] _
  refine x_pure (f' := [(0, .int .i32 r), (6, .bool (!(amongB r 96 126)))]) (cs := []) 3 [] [0, 6] [] (by kernel_rfl) c_nil ?_
  refine x_end rfl (fun a ha => hK6 _ _ ?_ a ha)
  refine x_cond (b := (!(amongB r 96 126))) (by kernel_rfl) (fun h10 => ?_) (fun h10 => ?_)
  · have h10 := not_t h10
    have h10 := h10
    exact absurd hin (among_out h10)
  · have h10 := not_f h10
    have h10 := h10
    have hr := among_in h10
    refine x_skip (fun a ha => hK4 _ _ ?_ a ha)
    refine x_seq (fun K11 hK12 => ?_)
    refine x_region ?_
    refine x_pure (f' := [(0, .int .i32 r), (8, .agg #[.int .i32 9670, .int .i32 9618, .int .i32 9225, .int .i32 9228, .int .i32 9229, .int .i32 9226, .int .i32 176, .int .i32 177, .int .i32 9252, .int .i32 9227, .int .i32 9496, .int .i32 9488, .int .i32 9484, .int .i32 9492, .int .i32 9532, .int .i32 9146, .int .i32 9147, .int .i32 9472, .int .i32 9148, .int .i32 9149, .int .i32 9500, .int .i32 9508, .int .i32 9524, .int .i32 9516, .int .i32 9474, .int .i32 8804, .int .i32 8805, .int .i32 960, .int .i32 8800, .int .i32 163, .int .i32 183])]) (cs := []) 1 [] [0, 8] [] (by kernel_rfl) c_nil ?_
    refine x_eff 2 ⟨rfl, by decide⟩ (e_new [.int .i32 0, .int .i32 0, .int .i32 0, .int .i32 0, .int .i32 0, .int .i32 0, .int .i32 0, .int .i32 0, .int .i32 0, .int .i32 0, .int .i32 0, .int .i32 0, .int .i32 0, .int .i32 0, .int .i32 0, .int .i32 0, .int .i32 0, .int .i32 0, .int .i32 0, .int .i32 0, .int .i32 0, .int .i32 0, .int .i32 0, .int .i32 0, .int .i32 0, .int .i32 0, .int .i32 0, .int .i32 0, .int .i32 0, .int .i32 0, .int .i32 0] 31 (some 3) (by kernel_rfl) ?_)
    intro w13 b14 hb15 hz16 hB17 hc18
    have hlo19 : w.heap.size ≤ b14 := by rw [hb15]; exact Ch.size hu9
    have hu20 := Up.step hu9 hc18 (fun _ _ h => h)
    change WS _ _ _ _ 2 [(3, .pointer (some ⟨b14, 0, none⟩)), (0, .int .i32 r), (8, .agg #[.int .i32 9670, .int .i32 9618, .int .i32 9225, .int .i32 9228, .int .i32 9229, .int .i32 9226, .int .i32 176, .int .i32 177, .int .i32 9252, .int .i32 9227, .int .i32 9496, .int .i32 9488, .int .i32 9484, .int .i32 9492, .int .i32 9532, .int .i32 9146, .int .i32 9147, .int .i32 9472, .int .i32 9148, .int .i32 9149, .int .i32 9500, .int .i32 9508, .int .i32 9524, .int .i32 9516, .int .i32 9474, .int .i32 8804, .int .i32 8805, .int .i32 960, .int .i32 8800, .int .i32 163, .int .i32 183])] _
    refine x_eff 3 ⟨rfl, by decide⟩ (e_store 0 [.int .i32 9670, .int .i32 9618, .int .i32 9225, .int .i32 9228, .int .i32 9229, .int .i32 9226, .int .i32 176, .int .i32 177, .int .i32 9252, .int .i32 9227, .int .i32 9496, .int .i32 9488, .int .i32 9484, .int .i32 9492, .int .i32 9532, .int .i32 9146, .int .i32 9147, .int .i32 9472, .int .i32 9148, .int .i32 9149, .int .i32 9500, .int .i32 9508, .int .i32 9524, .int .i32 9516, .int .i32 9474, .int .i32 8804, .int .i32 8805, .int .i32 960, .int .i32 8800, .int .i32 163, .int .i32 183] none (by kernel_rfl) hB17 (of_ble (by kernel_rfl)) ?_)
    intro w21 hB22 hc23
    have hu24 := Up.step hu20 hc23 (fun i hi (h : i = b14) => by omega)
    change Blk w21 b14 [.int .i32 9670, .int .i32 9618, .int .i32 9225, .int .i32 9228, .int .i32 9229, .int .i32 9226, .int .i32 176, .int .i32 177, .int .i32 9252, .int .i32 9227, .int .i32 9496, .int .i32 9488, .int .i32 9484, .int .i32 9492, .int .i32 9532, .int .i32 9146, .int .i32 9147, .int .i32 9472, .int .i32 9148, .int .i32 9149, .int .i32 9500, .int .i32 9508, .int .i32 9524, .int .i32 9516, .int .i32 9474, .int .i32 8804, .int .i32 8805, .int .i32 960, .int .i32 8800, .int .i32 163, .int .i32 183] _ at hB22
    change WS _ _ _ _ 3 [(3, .pointer (some ⟨b14, 0, none⟩)), (0, .int .i32 r), (8, .agg #[.int .i32 9670, .int .i32 9618, .int .i32 9225, .int .i32 9228, .int .i32 9229, .int .i32 9226, .int .i32 176, .int .i32 177, .int .i32 9252, .int .i32 9227, .int .i32 9496, .int .i32 9488, .int .i32 9484, .int .i32 9492, .int .i32 9532, .int .i32 9146, .int .i32 9147, .int .i32 9472, .int .i32 9148, .int .i32 9149, .int .i32 9500, .int .i32 9508, .int .i32 9524, .int .i32 9516, .int .i32 9474, .int .i32 8804, .int .i32 8805, .int .i32 960, .int .i32 8800, .int .i32 163, .int .i32 183])] _
    refine x_end rfl (fun a ha => hK12 _ _ ?_ a ha)
    refine x_seq (fun K25 hK26 => ?_)
    refine x_region ?_
    refine x_pure (f' := [(2, .int .i32 (signsL.getD (r - 96).toNat 0))]) (cs := [fun _ => InR .i32 (r - 96), fun _ => 0 ≤ ((r - 96) : Int) ∧ ((r - 96) : Int) < (31 : Nat), fun w => w.cell? ⟨b14, (0 + ((r - 96)).toNat * 1), none⟩ = some (.int .i32 (signsL.getD (r - 96).toNat 0))]) 5 [] [2] [.int .i32 (signsL.getD (r - 96).toNat 0)] (by kernel_rfl) (c_cons (in32 (by omega) (by omega)) (c_cons (by constructor <;> omega) (c_cons (by rw [Nat.zero_add, Nat.mul_one]; exact nums_cell (show Blk _ _ (signsL.map _) _ from hB22) _ (by simp [signsL]; omega)) c_nil))) ?_
    refine x_end rfl (fun a ha => hK26 _ _ ?_ a ha)
    refine x_ret (x_done1 rfl rfl ?_)
    exact ⟨rfl, Up.below hu24⟩
theorem drawnI_in {r : Int} (h : 96 ≤ r ∧ r ≤ 126) : drawnI r = signsL.getD (r - 96).toNat 0 := by unfold drawnI; rw [if_pos h]
theorem drawnI_out {r : Int} (h : ¬ (96 ≤ r ∧ r ≤ 126)) : drawnI r = r := by unfold drawnI; rw [if_neg h]
theorem ref_bl {w w' : World} (h : Below w.heap.size w w') : Ch (fun _ => False) w w' := Ch.of_below h _

theorem lawDraws (r : Int) (w : World) (hT : Tables w) : Calls Tryd.prog 6 [.int .i32 r].toArray w fun e w' => e = .returned (.bool true) ∧ Below w.heap.size w w' := by
  refine x_enter (fn := Tryd.f6) (args := [.int .i32 r]) Tryd.func6 rfl (of_ble (by kernel_rfl)) ?_
  refine x_keep [0] (f' := [(0, .int .i32 r)]) rfl ?_
  refine x_seq (fun K1 hK2 => ?_)
  refine x_region ?_
  refine x_pure (f' := [(0, .int .i32 r)]) (cs := []) 1 [] [0] [] (by kernel_rfl) c_nil ?_
  refine x_end rfl (fun a ha => hK2 _ _ ?_ a ha)
  refine x_seq (fun K3 hK4 => ?_)
  refine x_seq (fun K5 hK6 => ?_)
  refine x_region ?_
  refine x_eff 1 ⟨rfl, by decide⟩ (e_call (some 4) (by kernel_rfl) (fit_any _ hT) ?_)
  rintro e w7 ⟨rfl, hq⟩
  refine ⟨_, rfl, ?_⟩
  have hc8 := ch_eq hq
  clear hq
  have hu9 := Up.step (Up.refl w.heap.size w) hc8 (fun _ _ h => h)
  have hT10 := tables_ch hc8 hT (fun h => h) (fun h => h)
  change WS _ _ _ _ 1 [(4, .bool true), (0, .int .i32 r)] _
  refine x_pure (f' := [(0, .int .i32 r), (5, .bool false)]) (cs := []) 2 [] [0, 5] [] (by kernel_rfl) c_nil ?_
  refine x_end rfl (fun a ha => hK6 _ _ ?_ a ha)
  refine x_cond_f (by kernel_rfl) ?_
  refine x_skip (fun a ha => hK4 _ _ ?_ a ha)
  refine x_seq (fun K11 hK12 => ?_)
  refine x_region ?_
  refine x_pure (f' := [(0, .int .i32 r), (6, .int .i32 r)]) (cs := []) 1 [] [0, 6] [] (by kernel_rfl) c_nil ?_
  refine x_eff 2 ⟨rfl, by decide⟩ (e_call (some 7) (by kernel_rfl) (drawn_any r _ hT10.2) ?_)
  rintro e w13 ⟨rfl, hq⟩
  refine ⟨_, rfl, ?_⟩
  have hc14 := ch_eq hq
  clear hq
  have hu15 := Up.step hu9 hc14 (fun _ _ h => h)
  have hT16 := tables_ch hc14 hT10 (fun h => h) (fun h => h)
  change WS _ _ _ _ 2 [(7, .int .i32 (drawnI r)), (0, .int .i32 r), (6, .int .i32 r)] _
  refine x_pure (f' := [(0, .int .i32 r), (3, .int .i32 (drawnI r))]) (cs := []) 3 [] [0, 3] [] (by kernel_rfl) c_nil ?_
  refine x_end rfl (fun a ha => hK12 _ _ ?_ a ha)
  refine x_seq (fun K17 hK18 => ?_)
  refine x_seq (fun K19 hK20 => ?_)
  refine x_region ?_
  refine x_pure (f' := [(0, .int .i32 r), (3, .int .i32 (drawnI r)), (10, .bool (decide (r < 96)))]) (cs := []) 3 [] [0, 3, 10] [] (by kernel_rfl) c_nil ?_
  refine bool_split (M := fun bb => WS _ _ _ _ 3 [(0, .int .i32 r), (3, .int .i32 (drawnI r)), (10, .bool bb)] _) (decide (r < 96)) (fun h21 => ?_) (fun h21 => ?_)
  · have h21 := of_decide_eq_true h21
    refine x_pure (f' := [(0, .int .i32 r), (3, .int .i32 (drawnI r)), (13, .bool true)]) (cs := []) 6 [] [0, 3, 13] [] (by kernel_rfl) c_nil ?_
    refine x_end rfl (fun a ha => hK20 _ _ ?_ a ha)
    refine x_cond_t (by kernel_rfl) ?_
    refine x_seq (fun K22 hK23 => ?_)
    refine x_region ?_
    refine x_pure (f' := [(2, .bool (((drawnI r) : Int) == r))]) (cs := []) 4 [] [2] [] (by kernel_rfl) c_nil ?_
    refine x_end rfl (fun a ha => hK23 _ _ ?_ a ha)
    refine x_ret (then_ret (x_done1 rfl rfl ?_))
    refine ⟨?_, Up.below hu15⟩
    rw [drawnI_out (by omega)]; simp
  · have h21 := of_decide_eq_false h21
    refine x_pure (f' := [(0, .int .i32 r), (3, .int .i32 (drawnI r)), (13, .bool (decide (126 < r)))]) (cs := []) 6 [] [0, 3, 13] [] (by kernel_rfl) c_nil ?_
    refine x_end rfl (fun a ha => hK20 _ _ ?_ a ha)
    refine x_cond (b := (decide (126 < r))) (by kernel_rfl) (fun h24 => ?_) (fun h24 => ?_)
    · have h24 := of_decide_eq_true h24
      refine x_seq (fun K25 hK26 => ?_)
      refine x_region ?_
      refine x_pure (f' := [(2, .bool (((drawnI r) : Int) == r))]) (cs := []) 4 [] [2] [] (by kernel_rfl) c_nil ?_
      refine x_end rfl (fun a ha => hK26 _ _ ?_ a ha)
      refine x_ret (then_ret (x_done1 rfl rfl ?_))
      refine ⟨?_, Up.below hu15⟩
      rw [drawnI_out (by omega)]; simp
    · have h24 := of_decide_eq_false h24
      refine x_skip (fun a ha => hK18 _ _ ?_ a ha)
      refine x_seq (fun K27 hK28 => ?_)
      refine x_region ?_
      refine x_pure (f' := [(3, .int .i32 (drawnI r)), (17, .int .i32 (drawnI r)), (18, .int .i32 r)]) (cs := []) 2 [] [3, 17, 18] [] (by kernel_rfl) c_nil ?_
      refine x_eff 3 ⟨rfl, by decide⟩ (e_call (some 19) (by kernel_rfl) (refDrawn_in r _ (by omega)) ?_)
      rintro e w29 ⟨rfl, hq⟩
      refine ⟨_, rfl, ?_⟩
      have hc30 := ref_bl hq
      clear hq
      have hu31 := Up.step hu15 hc30 (fun _ _ h => h)
      have hT32 := tables_ch hc30 hT16 (fun h => h) (fun h => h)
      change WS _ _ _ _ 3 [(19, .int .i32 (signsL.getD (r - 96).toNat 0)), (3, .int .i32 (drawnI r)), (17, .int .i32 (drawnI r)), (18, .int .i32 r)] _
      refine x_pure (f' := [(3, .int .i32 (drawnI r)), (21, .bool (((drawnI r) : Int) == (signsL.getD (r - 96).toNat 0)))]) (cs := []) 5 [] [3, 21] [] (by kernel_rfl) c_nil ?_
      refine bool_split (M := fun bb => WS _ _ _ _ 5 [(3, .int .i32 (drawnI r)), (21, .bool bb)] _) (((drawnI r) : Int) == (signsL.getD (r - 96).toNat 0)) (fun h33 => ?_) (fun h33 => ?_)
      · have h33 := beq_iff_eq.1 h33
        refine x_pure (f' := [(21, .bool true), (22, .int .i32 (drawnI r))]) (cs := []) 6 [] [21, 22] [] (by kernel_rfl) c_nil ?_
        refine x_eff 7 ⟨rfl, by decide⟩ (e_bs [.int .i32 (drawnI r)] 21 1 (some 23) (by kernel_rfl) ?_)
        intro w34 b35 hb36 hz37 hB38 hc39
        have hu40 := Up.step hu31 hc39 (fun _ _ h => h)
        have hT41 := tables_ch hc39 hT32 (fun h => h) (fun h => h)
        change WS _ _ _ _ 7 [(23, .slice (some ⟨b35, 0, none⟩) 1 1), (21, .bool true), (22, .int .i32 (drawnI r))] _
        refine x_eff 8 ⟨rfl, by decide⟩ (e_call (some 24) (by kernel_rfl) (columns_any _ 1 1 [drawnI r] _ hT41 (runes_one hB38) (by omega)) ?_)
        rintro e w42 ⟨rfl, hq⟩
        refine ⟨_, rfl, ?_⟩
        have hc43 := ch_eq hq
        clear hq
        have hu44 := Up.step hu40 hc43 (fun _ _ h => h)
        have hT45 := tables_ch hc43 hT41 (fun h => h) (fun h => h)
        have hB46 := hB38.ch hc43 (fun h => h)
        change WS _ _ _ _ 8 [(24, .int .i64 (colsI [drawnI r])), (23, .slice (some ⟨b35, 0, none⟩) 1 1), (21, .bool true), (22, .int .i32 (drawnI r))] _
        refine x_pure (f' := [(2, .bool (((colsI [drawnI r]) : Int) == 1))]) (cs := []) 11 [] [2] [] (by kernel_rfl) c_nil ?_
        refine x_end rfl (fun a ha => hK28 _ _ ?_ a ha)
        refine x_ret (x_done1 rfl rfl ?_)
        refine ⟨?_, Up.below hu44⟩
        rw [drawnI_in (by omega), signs_col _ (by omega)]; rfl
      · have h33 := beq_eq_false_iff_ne.1 h33
        exact absurd (drawnI_in (by omega)) h33
end Go.Proofs.YtamccnffnljadaaDoor.X
