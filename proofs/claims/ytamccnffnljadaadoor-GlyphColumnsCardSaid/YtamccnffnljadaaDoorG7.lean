/- The walk of GlyphColumns: printed by wip/tools/gen.py off the loaded function. -/
import Derived.Test.YtamccnffnljadaaDoorG6
namespace Go.Proofs.YtamccnffnljadaaDoor.X
open Go Go.RowKit Go.Proofs.YtamccnffnljadaaDoor

theorem runes_take {w : World} {a : Option Addr} {n : Nat} {l : List Int} (h : Runes w a n l) (k : Nat) (hk : k ≤ n) : Runes w a k (l.take k) :=
  ⟨by simp [h.1]; omega, fun j hj => by
    obtain ⟨p, hp, hc⟩ := h.2 j (by omega)
    refine ⟨p, hp, ?_⟩
    rw [hc, List.getD, List.getD, List.getElem?_take_of_lt hj]⟩
theorem runes_drop {w : World} {b off n c : Nat} {l : List Int} (h : Runes w (some ⟨b, off, none⟩) n l) (k : Nat) (hk : k ≤ n) (hc : n ≤ c) : Runes w (some ⟨b, if c = k then off else off + k * 1, none⟩) (n - k) (l.drop k) :=
  ⟨by simp [h.1], fun j hj => by
    obtain ⟨p, hp, hcell⟩ := h.2 (k + j) (by omega)
    obtain rfl := Option.some.inj hp
    refine ⟨_, rfl, ?_⟩
    rw [if_neg (by omega), add_pl]
    rw [add_pl] at hcell
    rw [Nat.mul_one, Nat.add_assoc, hcell, List.getD, List.getD, List.getElem?_drop]⟩
theorem runes_nil (w : World) : Runes w none 0 [] := ⟨rfl, fun j hj => by omega⟩
theorem runes_nil' (w : World) {n : Nat} (h : n = 0) : Runes w none n [] := by subst h; exact runes_nil w
theorem and_bd (x : Int) : 0 ≤ bitsv .and .i64 x 65535 := by
  unfold bitsv
  simp only
  have h1 : (BitVec.ofInt (IntKind.bits .i64) x &&& BitVec.ofInt (IntKind.bits .i64) 65535).toNat ≤ 65535 := by
    rw [BitVec.toNat_and]
    exact Nat.le_trans Nat.and_le_right (by decide)
  have h2 : (IntKind.wrap .i64 ((BitVec.ofInt (IntKind.bits .i64) x &&& BitVec.ofInt (IntKind.bits .i64) 65535).toNat : Int)) = _ := wrap_in (k := .i64) ⟨by omega, by omega⟩
  rw [h2]; omega
theorem cols_split (l : List Int) (k : Nat) : colsI (l.take k) + colsI (l.drop k) = colsI l := by
  unfold colsI
  rw [← List.sum_append, ← List.map_append, List.take_append_drop]
theorem cell_runes {w : World} {b off n : Nat} {l : List Int} (h : Runes w (some ⟨b, off, none⟩) n l) (k : Nat) (hk : k < n) : w.cell? ⟨b, off + ((k : Nat) : Int).toNat * 1, none⟩ = some (.int .i32 (l.getD k 0)) := by
  obtain ⟨p, hp, hc⟩ := h.2 k hk
  obtain rfl := Option.some.inj hp
  rw [add_pl] at hc
  rw [Nat.mul_one, Int.toNat_natCast]; exact hc

theorem col_step2 (l : List Int) (k : Nat) (h : k < l.length) (hw : wideB (l.getD k 0) = true) (_ : rightB (l.getD k 0) = true) : colsI (List.take (k + 1) l) = colsI (List.take k l) + 1 + 1 := by
  rw [colsI_take l k h, colI, if_pos hw]; omega
theorem col_step1 (l : List Int) (k : Nat) (h : k < l.length) (hw : wideB (l.getD k 0) = false) (hr : rightB (l.getD k 0) = true) : colsI (List.take (k + 1) l) = colsI (List.take k l) + 1 := by
  rw [colsI_take l k h, colI, if_neg (by rw [hw]; exact Bool.false_ne_true), if_pos hr]
theorem col_step0 (l : List Int) (k : Nat) (h : k < l.length) (hw : wideB (l.getD k 0) = false) (hr : rightB (l.getD k 0) = false) : colsI (List.take (k + 1) l) = colsI (List.take k l) := by
  rw [colsI_take l k h, colI, if_neg (by rw [hw]; exact Bool.false_ne_true), if_neg (by rw [hr]; exact Bool.false_ne_true)]; omega
theorem lawCols (b off n c : Nat) (l : List Int) (x : Int) (w : World) (hT : Tables w) (hr : Runes w (some ⟨b, off, none⟩) n l) (hnc : n ≤ c) : Calls Tryd.prog 7 [.slice (some ⟨b, off, none⟩) n c, .int .i64 x].toArray w fun e w' => e = .returned (.bool true) ∧ Below w.heap.size w w' := by
  have hl : l.length = n := hr.1
  have hq := and_bd x
  have hq0 : 0 ≤ ((bitsv .and .i64 x 65535) % (((n : Nat) : Int) + 1)) := Int.emod_nonneg _ (by omega)
  have hq1 : ((bitsv .and .i64 x 65535) % (((n : Nat) : Int) + 1)) < ((n : Nat) : Int) + 1 := Int.emod_lt_of_pos _ (by omega)
  have hsum := cols_split l (((bitsv .and .i64 x 65535) % (((n : Nat) : Int) + 1)) : Int).toNat
  have hcb := colsI_bd l
  have htk : ∀ {k : Nat}, k = n → colsI (List.take k l) = colsI l := fun h => by rw [List.take_of_length_le (by omega)]
  refine x_enter (fn := Tryd.f7) (args := [.slice (some ⟨b, off, none⟩) n c, .int .i64 x]) Tryd.func7 rfl (of_ble (by kernel_rfl)) ?_
  refine x_keep [0, 1] (f' := [(0, .slice (some ⟨b, off, none⟩) n c), (1, .int .i64 x)]) rfl ?_
  refine x_seq (fun K1 hK2 => ?_)
  refine x_region ?_
  refine x_pure (f' := [(0, .slice (some ⟨b, off, none⟩) n c), (1, .int .i64 x)]) (cs := []) 1 [] [0, 1] [] (by kernel_rfl) c_nil ?_
  refine x_end rfl (fun a ha => hK2 _ _ ?_ a ha)
  refine x_seq (fun K3 hK4 => ?_)
  refine x_seq (fun K5 hK6 => ?_)
  refine x_region ?_
  refine x_eff 1 ⟨rfl, by decide⟩ (e_call (some 8) (by kernel_rfl) (fit_any _ hT) ?_)
  rintro e w7 ⟨rfl, hq⟩
  refine ⟨_, rfl, ?_⟩
  have hc8 := ch_eq hq
  clear hq
  have hu9 := Up.step (Up.refl w.heap.size w) hc8 (fun _ _ h => h)
  have hT10 := tables_ch hc8 hT (fun h => h) (fun h => h)
  have hr11 := runes_ch hc8 hr (fun h => h)
  change WS _ _ _ _ 1 [(8, .bool true), (0, .slice (some ⟨b, off, none⟩) n c), (1, .int .i64 x)] _
  refine x_pure (f' := [(0, .slice (some ⟨b, off, none⟩) n c), (1, .int .i64 x), (9, .bool false)]) (cs := []) 2 [] [0, 1, 9] [] (by kernel_rfl) c_nil ?_
  refine x_end rfl (fun a ha => hK6 _ _ ?_ a ha)
  refine x_cond_f (by kernel_rfl) ?_
  refine x_skip (fun a ha => hK4 _ _ ?_ a ha)
  refine x_seq (fun K12 hK13 => ?_)
  refine x_seq (fun K14 hK15 => ?_)
  refine x_region ?_
  refine x_pure (f' := [(0, .slice (some ⟨b, off, none⟩) n c), (1, .int .i64 x), (12, .bool (decide (300 < ((n : Nat) : Int))))]) (cs := []) 3 [] [0, 1, 12] [] (by kernel_rfl) c_nil ?_
  refine x_end rfl (fun a ha => hK15 _ _ ?_ a ha)
  refine x_cond (b := (decide (300 < ((n : Nat) : Int)))) (by kernel_rfl) (fun h16 => ?_) (fun h16 => ?_)
  · have h16 := of_decide_eq_true h16
    refine x_seq (fun K17 hK18 => ?_)
    refine x_region ?_
    refine x_pure (f' := [(4, .bool true)]) (cs := []) 1 [] [4] [] (by kernel_rfl) c_nil ?_
    refine x_end rfl (fun a ha => hK18 _ _ ?_ a ha)
    refine x_ret (then_ret (x_done1 rfl rfl ?_))
    exact ⟨rfl, Up.below hu9⟩
  · have h16 := of_decide_eq_false h16
    refine x_skip (fun a ha => hK13 _ _ ?_ a ha)
    refine x_seq (fun K19 hK20 => ?_)
    refine x_region ?_
    refine x_pure (f' := [(0, .slice (some ⟨b, off, none⟩) n c), (1, .int .i64 x), (5, .int .i64 0)]) (cs := []) 1 [] [0, 1, 5] [] (by kernel_rfl) c_nil ?_
    refine x_end rfl (fun a ha => hK20 _ _ ?_ a ha)
    refine x_seq (fun K21 hK22 => ?_)
    refine x_seq (fun K23 hK24 => ?_)
    refine x_region ?_
    refine x_pure (f' := [(0, .slice (some ⟨b, off, none⟩) n c), (1, .int .i64 x), (5, .int .i64 0), (13, .slice (some ⟨b, off, none⟩) n c), (14, .int .i64 ((n : Nat) : Int)), (15, .int .i64 0)]) (cs := []) 3 [] [0, 1, 5, 13, 14, 15] [] (by kernel_rfl) c_nil ?_
    refine x_end rfl (fun a ha => hK24 _ _ ?_ a ha)
    refine x_block ?_
    refine x_keep [0, 1, 5, 13, 14, 15] (f' := [(0, .slice (some ⟨b, off, none⟩) n c), (1, .int .i64 x), (5, .int .i64 0), (13, .slice (some ⟨b, off, none⟩) n c), (14, .int .i64 ((n : Nat) : Int)), (15, .int .i64 0)]) rfl ?_
    refine x_loop (σ := Nat) (fun k => [(0, .slice (some ⟨b, off, none⟩) n c), (1, .int .i64 x), (5, .int .i64 (colsI (List.take k l))), (13, .slice (some ⟨b, off, none⟩) n c), (14, .int .i64 ((n : Nat) : Int)), (15, .int .i64 ((k : Nat) : Int))]) (fun k w => k ≤ n ∧ Ch (fun _ => False) w7 w) (fun k => n - k) 0 rfl ?_ ?_
    · exact ⟨Nat.zero_le _, Ch.refl _ _⟩
    · intro k w25 hI26 K27 hL28
      obtain ⟨hk, hch⟩ := hI26
      have hT29 := tables_ch hch hT10 (fun h => h) (fun h => h)
      have hr30 := runes_ch hch hr11 (fun h => h)
      have hu31 := Up.step hu9 hch (fun _ _ h => h)
      have hlt := colsI_bd (l.take k)
      have hlen : (l.take k).length ≤ k := List.length_take_le _ _
      refine x_seq (fun K32 hK33 => ?_)
      refine x_region ?_
      refine x_pure (f' := [(0, .slice (some ⟨b, off, none⟩) n c), (1, .int .i64 x), (5, .int .i64 (colsI (List.take k l))), (13, .slice (some ⟨b, off, none⟩) n c), (14, .int .i64 ((n : Nat) : Int)), (15, .int .i64 ((k : Nat) : Int)), (16, .bool (decide (((k : Nat) : Int) < ((n : Nat) : Int))))]) (cs := []) 1 [] [0, 1, 5, 13, 14, 15, 16] [] (by kernel_rfl) c_nil ?_
      refine x_end rfl (fun a ha => hK33 _ _ ?_ a ha)
      refine x_seq (fun K34 hK35 => ?_)
      refine x_cond (b := (decide (((k : Nat) : Int) < ((n : Nat) : Int)))) (by kernel_rfl) (fun h36 => ?_) (fun h36 => ?_)
      · have h36 := of_decide_eq_true h36
        refine x_skip (fun a ha => hK35 _ _ ?_ a ha)
        refine x_seq (fun K37 hK38 => ?_)
        refine x_block ?_
        refine x_seq (fun K39 hK40 => ?_)
        refine x_region ?_
        refine x_pure (f' := [(0, .slice (some ⟨b, off, none⟩) n c), (1, .int .i64 x), (5, .int .i64 (colsI (List.take k l))), (7, .int .i32 (l.getD k 0)), (13, .slice (some ⟨b, off, none⟩) n c), (14, .int .i64 ((n : Nat) : Int)), (15, .int .i64 ((k : Nat) : Int))]) (cs := [fun _ => 0 ≤ (((k : Nat) : Int) : Int) ∧ (((k : Nat) : Int) : Int) < (n : Nat), fun w => w.cell? ⟨b, (off + (((k : Nat) : Int)).toNat * 1), none⟩ = some (.int .i32 (l.getD k 0))]) 3 [] [0, 1, 5, 7, 13, 14, 15] [.int .i32 (l.getD k 0)] (by kernel_rfl) (c_cons (by constructor <;> omega) (c_cons (cell_runes hr30 k (by omega)) c_nil)) ?_
        refine x_end rfl (fun a ha => hK40 _ _ ?_ a ha)
        refine x_seq (fun K41 hK42 => ?_)
        refine x_seq (fun K43 hK44 => ?_)
        refine x_region ?_
        refine x_pure (f' := [(0, .slice (some ⟨b, off, none⟩) n c), (1, .int .i64 x), (5, .int .i64 (colsI (List.take k l))), (7, .int .i32 (l.getD k 0)), (13, .slice (some ⟨b, off, none⟩) n c), (14, .int .i64 ((n : Nat) : Int)), (15, .int .i64 ((k : Nat) : Int)), (19, .int .i32 (l.getD k 0))]) (cs := []) 1 [] [0, 1, 5, 7, 13, 14, 15, 19] [] (by kernel_rfl) c_nil ?_
        refine x_eff 2 ⟨rfl, by decide⟩ (e_call (some 20) (by kernel_rfl) (wide_any (l.getD k 0) _ hT29.1) ?_)
        rintro e w45 ⟨rfl, hq⟩
        refine ⟨_, rfl, ?_⟩
        have hc46 := ch_eq hq
        clear hq
        have hu47 := Up.step hu31 hc46 (fun _ _ h => h)
        have hT48 := tables_ch hc46 hT29 (fun h => h) (fun h => h)
        have hr49 := runes_ch hc46 hr30 (fun h => h)
        change WS _ _ _ _ 2 [(20, .bool (wideB (l.getD k 0))), (0, .slice (some ⟨b, off, none⟩) n c), (1, .int .i64 x), (5, .int .i64 (colsI (List.take k l))), (7, .int .i32 (l.getD k 0)), (13, .slice (some ⟨b, off, none⟩) n c), (14, .int .i64 ((n : Nat) : Int)), (15, .int .i64 ((k : Nat) : Int)), (19, .int .i32 (l.getD k 0))] _
        refine x_end rfl (fun a ha => hK44 _ _ ?_ a ha)
        refine x_cond (b := (wideB (l.getD k 0))) (by kernel_rfl) (fun h50 => ?_) (fun h50 => ?_)
        · have h50 := h50
          refine x_region ?_
          refine x_pure (f' := [(0, .slice (some ⟨b, off, none⟩) n c), (1, .int .i64 x), (5, .int .i64 ((colsI (List.take k l)) + 1)), (7, .int .i32 (l.getD k 0)), (13, .slice (some ⟨b, off, none⟩) n c), (14, .int .i64 ((n : Nat) : Int)), (15, .int .i64 ((k : Nat) : Int))]) (cs := [fun _ => InR .i64 ((colsI (List.take k l)) + 1)]) 3 [] [0, 1, 5, 7, 13, 14, 15] [] (by kernel_rfl) (c_cons (in64 (by omega) (by omega)) c_nil) ?_
          refine x_end rfl (fun a ha => hK42 _ _ ?_ a ha)
          refine x_seq (fun K51 hK52 => ?_)
          refine x_region ?_
          refine x_pure (f' := [(0, .slice (some ⟨b, off, none⟩) n c), (1, .int .i64 x), (5, .int .i64 ((colsI (List.take k l)) + 1)), (13, .slice (some ⟨b, off, none⟩) n c), (14, .int .i64 ((n : Nat) : Int)), (15, .int .i64 ((k : Nat) : Int)), (23, .int .i32 (l.getD k 0))]) (cs := []) 1 [] [0, 1, 5, 13, 14, 15, 23] [] (by kernel_rfl) c_nil ?_
          refine x_eff 2 ⟨rfl, by decide⟩ (e_call (some 24) (by kernel_rfl) (right_any (l.getD k 0) _) ?_)
          rintro e w53 ⟨rfl, hq⟩
          refine ⟨_, rfl, ?_⟩
          have hc54 := ch_eq hq
          clear hq
          have hu55 := Up.step hu47 hc54 (fun _ _ h => h)
          have hT56 := tables_ch hc54 hT48 (fun h => h) (fun h => h)
          have hr57 := runes_ch hc54 hr49 (fun h => h)
          change WS _ _ _ _ 2 [(24, .bool (rightB (l.getD k 0))), (0, .slice (some ⟨b, off, none⟩) n c), (1, .int .i64 x), (5, .int .i64 ((colsI (List.take k l)) + 1)), (13, .slice (some ⟨b, off, none⟩) n c), (14, .int .i64 ((n : Nat) : Int)), (15, .int .i64 ((k : Nat) : Int)), (23, .int .i32 (l.getD k 0))] _
          refine x_end rfl (fun a ha => hK52 _ _ ?_ a ha)
          refine x_cond (b := (rightB (l.getD k 0))) (by kernel_rfl) (fun h58 => ?_) (fun h58 => ?_)
          · have h58 := h58
            refine x_region ?_
            refine x_pure (f' := [(0, .slice (some ⟨b, off, none⟩) n c), (1, .int .i64 x), (5, .int .i64 (((colsI (List.take k l)) + 1) + 1)), (13, .slice (some ⟨b, off, none⟩) n c), (14, .int .i64 ((n : Nat) : Int)), (15, .int .i64 ((k : Nat) : Int))]) (cs := [fun _ => InR .i64 (((colsI (List.take k l)) + 1) + 1)]) 3 [] [0, 1, 5, 13, 14, 15] [] (by kernel_rfl) (c_cons (in64 (by omega) (by omega)) c_nil) ?_
            refine x_end rfl (fun a ha => hK38 _ _ ?_ a ha)
            refine x_region ?_
            refine x_pure (f' := [(0, .slice (some ⟨b, off, none⟩) n c), (1, .int .i64 x), (5, .int .i64 (((colsI (List.take k l)) + 1) + 1)), (13, .slice (some ⟨b, off, none⟩) n c), (14, .int .i64 ((n : Nat) : Int)), (15, .int .i64 (((k : Nat) : Int) + 1))]) (cs := [fun _ => InR .i64 (((k : Nat) : Int) + 1)]) 2 [] [0, 1, 5, 13, 14, 15] [] (by kernel_rfl) (c_cons (in64 (by omega) (by omega)) c_nil) ?_
            refine x_end rfl (fun a ha => hL28 (k + 1) _ ⟨by omega, (Ch.trans (Ch.trans hch hc46 (fun _ _ h => h)) hc54 (fun _ _ h => h))⟩ (by show n - (k + 1) < n - k; omega) a (by rw [col_step2 l k (by omega) h50 h58]; exact ha.keep [0, 1, 5, 13, 14, 15]))
          · have h58 := h58
            exact absurd (wide_right _ h50) (by rw [h58]; exact Bool.false_ne_true)
        · have h50 := h50
          refine x_skip (fun a ha => hK42 _ _ ?_ a ha)
          refine x_seq (fun K59 hK60 => ?_)
          refine x_region ?_
          refine x_pure (f' := [(0, .slice (some ⟨b, off, none⟩) n c), (1, .int .i64 x), (5, .int .i64 (colsI (List.take k l))), (13, .slice (some ⟨b, off, none⟩) n c), (14, .int .i64 ((n : Nat) : Int)), (15, .int .i64 ((k : Nat) : Int)), (23, .int .i32 (l.getD k 0))]) (cs := []) 1 [] [0, 1, 5, 13, 14, 15, 23] [] (by kernel_rfl) c_nil ?_
          refine x_eff 2 ⟨rfl, by decide⟩ (e_call (some 24) (by kernel_rfl) (right_any (l.getD k 0) _) ?_)
          rintro e w61 ⟨rfl, hq⟩
          refine ⟨_, rfl, ?_⟩
          have hc62 := ch_eq hq
          clear hq
          have hu63 := Up.step hu47 hc62 (fun _ _ h => h)
          have hT64 := tables_ch hc62 hT48 (fun h => h) (fun h => h)
          have hr65 := runes_ch hc62 hr49 (fun h => h)
          change WS _ _ _ _ 2 [(24, .bool (rightB (l.getD k 0))), (0, .slice (some ⟨b, off, none⟩) n c), (1, .int .i64 x), (5, .int .i64 (colsI (List.take k l))), (13, .slice (some ⟨b, off, none⟩) n c), (14, .int .i64 ((n : Nat) : Int)), (15, .int .i64 ((k : Nat) : Int)), (23, .int .i32 (l.getD k 0))] _
          refine x_end rfl (fun a ha => hK60 _ _ ?_ a ha)
          refine x_cond (b := (rightB (l.getD k 0))) (by kernel_rfl) (fun h66 => ?_) (fun h66 => ?_)
          · have h66 := h66
            refine x_region ?_
            refine x_pure (f' := [(0, .slice (some ⟨b, off, none⟩) n c), (1, .int .i64 x), (5, .int .i64 ((colsI (List.take k l)) + 1)), (13, .slice (some ⟨b, off, none⟩) n c), (14, .int .i64 ((n : Nat) : Int)), (15, .int .i64 ((k : Nat) : Int))]) (cs := [fun _ => InR .i64 ((colsI (List.take k l)) + 1)]) 3 [] [0, 1, 5, 13, 14, 15] [] (by kernel_rfl) (c_cons (in64 (by omega) (by omega)) c_nil) ?_
            refine x_end rfl (fun a ha => hK38 _ _ ?_ a ha)
            refine x_region ?_
            refine x_pure (f' := [(0, .slice (some ⟨b, off, none⟩) n c), (1, .int .i64 x), (5, .int .i64 ((colsI (List.take k l)) + 1)), (13, .slice (some ⟨b, off, none⟩) n c), (14, .int .i64 ((n : Nat) : Int)), (15, .int .i64 (((k : Nat) : Int) + 1))]) (cs := [fun _ => InR .i64 (((k : Nat) : Int) + 1)]) 2 [] [0, 1, 5, 13, 14, 15] [] (by kernel_rfl) (c_cons (in64 (by omega) (by omega)) c_nil) ?_
            refine x_end rfl (fun a ha => hL28 (k + 1) _ ⟨by omega, (Ch.trans (Ch.trans hch hc46 (fun _ _ h => h)) hc62 (fun _ _ h => h))⟩ (by show n - (k + 1) < n - k; omega) a (by rw [col_step1 l k (by omega) h50 h66]; exact ha.keep [0, 1, 5, 13, 14, 15]))
          · have h66 := h66
            refine x_skip (fun a ha => hK38 _ _ ?_ a ha)
            refine x_region ?_
            refine x_pure (f' := [(0, .slice (some ⟨b, off, none⟩) n c), (1, .int .i64 x), (5, .int .i64 (colsI (List.take k l))), (13, .slice (some ⟨b, off, none⟩) n c), (14, .int .i64 ((n : Nat) : Int)), (15, .int .i64 (((k : Nat) : Int) + 1))]) (cs := [fun _ => InR .i64 (((k : Nat) : Int) + 1)]) 2 [] [0, 1, 5, 13, 14, 15] [] (by kernel_rfl) (c_cons (in64 (by omega) (by omega)) c_nil) ?_
            refine x_end rfl (fun a ha => hL28 (k + 1) _ ⟨by omega, (Ch.trans (Ch.trans hch hc46 (fun _ _ h => h)) hc62 (fun _ _ h => h))⟩ (by show n - (k + 1) < n - k; omega) a (by rw [col_step0 l k (by omega) h50 h66]; exact ha.keep [0, 1, 5, 13, 14, 15]))
      · have h36 := of_decide_eq_false h36
        have hkn : k = n := by omega
        refine x_exit (fun a ha => hK22 _ _ ?_ a ha)
        refine x_seq (fun K67 hK68 => ?_)
        refine x_region ?_
        refine x_pure (f' := [(0, .slice (some ⟨b, off, none⟩) n c), (1, .int .i64 ((bitsv .and .i64 x 65535) % (((n : Nat) : Int) + 1))), (5, .int .i64 (colsI (List.take k l)))]) (cs := [fun _ => InR .i64 (((n : Nat) : Int) + 1), fun _ => 0 ≤ ((bitsv .and .i64 x 65535) : Int) ∧ 0 < ((((n : Nat) : Int) + 1) : Int)]) 7 [] [0, 1, 5] [] (by kernel_rfl) (c_cons (in64 (by omega) (by omega)) (c_cons (by constructor <;> omega) c_nil)) ?_
        refine x_end rfl (fun a ha => hK68 _ _ ?_ a ha)
        refine x_seq (fun K69 hK70 => ?_)
        refine x_drawn [1, 8, 12] (by kernel_rfl) (fun w71 hh72 hc73 => ?_)
        have hu74 := Up.step hu31 hc73 (fun _ _ h => h)
        have hT75 := tables_ch hc73 hT29 (fun h => h) (fun h => h)
        have hr76 := runes_ch hc73 hr30 (fun h => h)
        refine x_dpure (f' := [(0, .slice (some ⟨b, off, none⟩) n c), (1, .int .i64 ((bitsv .and .i64 x 65535) % (((n : Nat) : Int) + 1))), (5, .int .i64 (colsI (List.take k l))), (34, .slice (some ⟨b, off, none⟩) n c), (36, .int .i64 (colsI (List.take k l)))]) (cs := []) [0, 2] [0, 2] [] [0, 1, 5, 34, 36] [] (by kernel_rfl) rfl rfl (c_eq c_nil) ?_
        refine x_dkill 1 [0, 2, 1] (by kernel_rfl) rfl rfl (by decide) (e_call (some 35) (by kernel_rfl) (columns_any _ _ c l _ hT75 hr76 (by omega)) ?_)
        rintro e w77 ⟨rfl, hq⟩
        refine ⟨_, rfl, ?_⟩
        have hc78 := ch_eq hq
        clear hq
        have hu79 := Up.step hu74 hc78 (fun _ _ h => h)
        have hT80 := tables_ch hc78 hT75 (fun h => h) (fun h => h)
        have hr81 := runes_ch hc78 hr76 (fun h => h)
        change WD _ _ _ _ _ (fun _ => True) [0, 2, 1] [(35, .int .i64 (colsI l)), (0, .slice (some ⟨b, off, none⟩) n c), (1, .int .i64 ((bitsv .and .i64 x 65535) % (((n : Nat) : Int) + 1))), (5, .int .i64 (colsI (List.take k l))), (34, .slice (some ⟨b, off, none⟩) n c), (36, .int .i64 (colsI (List.take k l)))] _
        refine x_dpureT (f' := [(0, .slice (some ⟨b, off, none⟩) n c), (1, .int .i64 ((bitsv .and .i64 x 65535) % (((n : Nat) : Int) + 1))), (5, .int .i64 (colsI (List.take k l))), (38, .bool (((colsI l) : Int) == (colsI (List.take k l))))]) (cs := []) [0, 2, 1, 3, 4] [3, 4] [] [0, 1, 5, 38] [] (by kernel_rfl) rfl  (fun _ => c_nil) ?_
        refine bool_split (M := fun bb => WD _ _ _ _ _ _ [0, 2, 1, 3, 4] [(0, .slice (some ⟨b, off, none⟩) n c), (1, .int .i64 ((bitsv .and .i64 x 65535) % (((n : Nat) : Int) + 1))), (5, .int .i64 (colsI (List.take k l))), (38, .bool bb)] _) (((colsI l) : Int) == (colsI (List.take k l))) (fun h82 => ?_) (fun h82 => ?_)
        · have h82 := beq_iff_eq.1 h82
          refine x_dpureT (f' := [(38, .bool true), (41, .slice (some ⟨b, off, none⟩) (((bitsv .and .i64 x 65535) % (((n : Nat) : Int) + 1)) : Int).toNat c), (45, .slice (some ⟨b, (if c = (((bitsv .and .i64 x 65535) % (((n : Nat) : Int) + 1)) : Int).toNat then off else off + (((bitsv .and .i64 x 65535) % (((n : Nat) : Int) + 1)) : Int).toNat * 1), none⟩) (n - (((bitsv .and .i64 x 65535) % (((n : Nat) : Int) + 1)) : Int).toNat) (c - (((bitsv .and .i64 x 65535) % (((n : Nat) : Int) + 1)) : Int).toNat)), (48, .int .i64 (colsI (List.take k l)))]) (cs := [fun _ => 0 ≤ (((bitsv .and .i64 x 65535) % (((n : Nat) : Int) + 1)) : Int) ∧ (((bitsv .and .i64 x 65535) % (((n : Nat) : Int) + 1)) : Int) ≤ (c : Nat), fun _ => 0 ≤ (((bitsv .and .i64 x 65535) % (((n : Nat) : Int) + 1)) : Int) ∧ (((bitsv .and .i64 x 65535) % (((n : Nat) : Int) + 1)) : Int) ≤ (n : Nat)]) [0, 2, 1, 3, 4, 5, 6, 7, 9, 10, 11, 14] [5, 6, 7, 9, 10, 11, 14] [] [38, 41, 45, 48] [] (by kernel_rfl) rfl  (fun _ => (c_cons (by constructor <;> omega) (c_cons (by constructor <;> omega) c_nil))) ?_
          refine x_dkill 8 [0, 2, 1, 3, 4, 5, 6, 7, 9, 10, 11, 14, 8] (by kernel_rfl) rfl rfl (by decide) (e_call (some 42) (by kernel_rfl) (columns_any _ _ c (List.take ((((bitsv .and .i64 x 65535) % (((n : Nat) : Int) + 1)) : Int).toNat) l) _ hT80 (runes_take hr81 _ (by omega)) (by omega)) ?_)
          rintro e w83 ⟨rfl, hq⟩
          refine ⟨_, rfl, ?_⟩
          have hc84 := ch_eq hq
          clear hq
          have hu85 := Up.step hu79 hc84 (fun _ _ h => h)
          have hT86 := tables_ch hc84 hT80 (fun h => h) (fun h => h)
          have hr87 := runes_ch hc84 hr81 (fun h => h)
          change WD _ _ _ _ _ (fun _ => True) [0, 2, 1, 3, 4, 5, 6, 7, 9, 10, 11, 14, 8] [(42, .int .i64 (colsI (List.take ((((bitsv .and .i64 x 65535) % (((n : Nat) : Int) + 1)) : Int).toNat) l))), (38, .bool true), (41, .slice (some ⟨b, off, none⟩) (((bitsv .and .i64 x 65535) % (((n : Nat) : Int) + 1)) : Int).toNat c), (45, .slice (some ⟨b, (if c = (((bitsv .and .i64 x 65535) % (((n : Nat) : Int) + 1)) : Int).toNat then off else off + (((bitsv .and .i64 x 65535) % (((n : Nat) : Int) + 1)) : Int).toNat * 1), none⟩) (n - (((bitsv .and .i64 x 65535) % (((n : Nat) : Int) + 1)) : Int).toNat) (c - (((bitsv .and .i64 x 65535) % (((n : Nat) : Int) + 1)) : Int).toNat)), (48, .int .i64 (colsI (List.take k l)))] _
          refine x_dkill 12 [0, 2, 1, 3, 4, 5, 6, 7, 9, 10, 11, 14, 8, 12] (by kernel_rfl) rfl rfl (by decide) (e_call (some 46) (by kernel_rfl) (columns_any _ _ (c - (((bitsv .and .i64 x 65535) % (((n : Nat) : Int) + 1)) : Int).toNat) (List.drop ((((bitsv .and .i64 x 65535) % (((n : Nat) : Int) + 1)) : Int).toNat) l) _ hT86 (runes_drop hr87 _ (by omega) hnc) (by omega)) ?_)
          rintro e w88 ⟨rfl, hq⟩
          refine ⟨_, rfl, ?_⟩
          have hc89 := ch_eq hq
          clear hq
          have hu90 := Up.step hu85 hc89 (fun _ _ h => h)
          have hT91 := tables_ch hc89 hT86 (fun h => h) (fun h => h)
          have hr92 := runes_ch hc89 hr87 (fun h => h)
          change WD _ _ _ _ _ (fun _ => True) [0, 2, 1, 3, 4, 5, 6, 7, 9, 10, 11, 14, 8, 12] [(46, .int .i64 (colsI (List.drop ((((bitsv .and .i64 x 65535) % (((n : Nat) : Int) + 1)) : Int).toNat) l))), (42, .int .i64 (colsI (List.take ((((bitsv .and .i64 x 65535) % (((n : Nat) : Int) + 1)) : Int).toNat) l))), (38, .bool true), (41, .slice (some ⟨b, off, none⟩) (((bitsv .and .i64 x 65535) % (((n : Nat) : Int) + 1)) : Int).toNat c), (45, .slice (some ⟨b, (if c = (((bitsv .and .i64 x 65535) % (((n : Nat) : Int) + 1)) : Int).toNat then off else off + (((bitsv .and .i64 x 65535) % (((n : Nat) : Int) + 1)) : Int).toNat * 1), none⟩) (n - (((bitsv .and .i64 x 65535) % (((n : Nat) : Int) + 1)) : Int).toNat) (c - (((bitsv .and .i64 x 65535) % (((n : Nat) : Int) + 1)) : Int).toNat)), (48, .int .i64 (colsI (List.take k l)))] _
          refine x_dpureT (f' := [(4, .bool ((((colsI (List.take ((((bitsv .and .i64 x 65535) % (((n : Nat) : Int) + 1)) : Int).toNat) l)) + (colsI (List.drop ((((bitsv .and .i64 x 65535) % (((n : Nat) : Int) + 1)) : Int).toNat) l))) : Int) == (colsI (List.take k l))))]) (cs := [fun _ => InR .i64 ((colsI (List.take ((((bitsv .and .i64 x 65535) % (((n : Nat) : Int) + 1)) : Int).toNat) l)) + (colsI (List.drop ((((bitsv .and .i64 x 65535) % (((n : Nat) : Int) + 1)) : Int).toNat) l)))]) [0, 2, 1, 3, 4, 5, 6, 7, 9, 10, 11, 14, 8, 12, 13, 15, 16, 17] [13, 15, 16, 17] [] [4] [] (by kernel_rfl) rfl  (fun _ => (c_cons (in64 (by omega) (by omega)) c_nil)) ?_
          refine x_dend rfl (by kernel_rfl) (fun a ha => hK70 _ _ ?_ a ha)
          refine x_ret (x_done1 rfl rfl ?_)
          refine ⟨?_, Up.below hu90⟩
          rw [cols_split, htk (by omega)]; simp
        · have h82 := beq_eq_false_iff_ne.1 h82
          exact absurd (htk (by omega)).symm h82
theorem lawColsN (x : Int) (w : World) (hT : Tables w) : Calls Tryd.prog 7 [.slice none 0 0, .int .i64 x].toArray w fun e w' => e = .returned (.bool true) ∧ Below w.heap.size w w' := by
  have hq := and_bd x
  have hq0 : 0 ≤ ((bitsv .and .i64 x 65535) % (0 + 1)) := Int.emod_nonneg _ (by omega)
  have hq1 : ((bitsv .and .i64 x 65535) % (0 + 1)) < 0 + 1 := Int.emod_lt_of_pos _ (by omega)
  refine x_enter (fn := Tryd.f7) (args := [.slice none 0 0, .int .i64 x]) Tryd.func7 rfl (of_ble (by kernel_rfl)) ?_
  refine x_keep [0, 1] (f' := [(0, .slice none 0 0), (1, .int .i64 x)]) rfl ?_
  refine x_seq (fun K1 hK2 => ?_)
  refine x_region ?_
  refine x_pure (f' := [(0, .slice none 0 0), (1, .int .i64 x)]) (cs := []) 1 [] [0, 1] [] (by kernel_rfl) c_nil ?_
  refine x_end rfl (fun a ha => hK2 _ _ ?_ a ha)
  refine x_seq (fun K3 hK4 => ?_)
  refine x_seq (fun K5 hK6 => ?_)
  refine x_region ?_
  refine x_eff 1 ⟨rfl, by decide⟩ (e_call (some 8) (by kernel_rfl) (fit_any _ hT) ?_)
  rintro e w7 ⟨rfl, hq⟩
  refine ⟨_, rfl, ?_⟩
  have hc8 := ch_eq hq
  clear hq
  have hu9 := Up.step (Up.refl w.heap.size w) hc8 (fun _ _ h => h)
  have hT10 := tables_ch hc8 hT (fun h => h) (fun h => h)
  change WS _ _ _ _ 1 [(8, .bool true), (0, .slice none 0 0), (1, .int .i64 x)] _
  refine x_pure (f' := [(0, .slice none 0 0), (1, .int .i64 x), (9, .bool false)]) (cs := []) 2 [] [0, 1, 9] [] (by kernel_rfl) c_nil ?_
  refine x_end rfl (fun a ha => hK6 _ _ ?_ a ha)
  refine x_cond_f (by kernel_rfl) ?_
  refine x_skip (fun a ha => hK4 _ _ ?_ a ha)
  refine x_seq (fun K11 hK12 => ?_)
  refine x_seq (fun K13 hK14 => ?_)
  refine x_region ?_
  refine x_pure (f' := [(0, .slice none 0 0), (1, .int .i64 x), (12, .bool false)]) (cs := []) 3 [] [0, 1, 12] [] (by kernel_rfl) c_nil ?_
  refine x_end rfl (fun a ha => hK14 _ _ ?_ a ha)
  refine x_cond_f (by kernel_rfl) ?_
  refine x_skip (fun a ha => hK12 _ _ ?_ a ha)
  refine x_seq (fun K15 hK16 => ?_)
  refine x_region ?_
  refine x_pure (f' := [(0, .slice none 0 0), (1, .int .i64 x), (5, .int .i64 0)]) (cs := []) 1 [] [0, 1, 5] [] (by kernel_rfl) c_nil ?_
  refine x_end rfl (fun a ha => hK16 _ _ ?_ a ha)
  refine x_seq (fun K17 hK18 => ?_)
  refine x_seq (fun K19 hK20 => ?_)
  refine x_region ?_
  refine x_pure (f' := [(0, .slice none 0 0), (1, .int .i64 x), (5, .int .i64 0), (13, .slice none 0 0), (14, .int .i64 0), (15, .int .i64 0)]) (cs := []) 3 [] [0, 1, 5, 13, 14, 15] [] (by kernel_rfl) c_nil ?_
  refine x_end rfl (fun a ha => hK20 _ _ ?_ a ha)
  refine x_block ?_
  refine x_keep [0, 1, 5, 13, 14, 15] (f' := [(0, .slice none 0 0), (1, .int .i64 x), (5, .int .i64 0), (13, .slice none 0 0), (14, .int .i64 0), (15, .int .i64 0)]) rfl ?_
  refine x_loop (σ := Nat) (fun k => [(0, .slice none 0 0), (1, .int .i64 x), (5, .int .i64 0), (13, .slice none 0 0), (14, .int .i64 0), (15, .int .i64 ((k : Nat) : Int))]) (fun k w => k ≤ 0 ∧ Ch (fun _ => False) w7 w) (fun k => 0 - k) 0 rfl ?_ ?_
  · exact ⟨Nat.zero_le _, Ch.refl _ _⟩
  · intro k w21 hI22 K23 hL24
    obtain ⟨hk, hch⟩ := hI22
    have hT25 := tables_ch hch hT10 (fun h => h) (fun h => h)
    have hu26 := Up.step hu9 hch (fun _ _ h => h)
    refine x_seq (fun K27 hK28 => ?_)
    refine x_region ?_
    refine x_pure (f' := [(0, .slice none 0 0), (1, .int .i64 x), (5, .int .i64 0), (13, .slice none 0 0), (14, .int .i64 0), (15, .int .i64 ((k : Nat) : Int)), (16, .bool (decide (((k : Nat) : Int) < 0)))]) (cs := []) 1 [] [0, 1, 5, 13, 14, 15, 16] [] (by kernel_rfl) c_nil ?_
    refine x_end rfl (fun a ha => hK28 _ _ ?_ a ha)
    refine x_seq (fun K29 hK30 => ?_)
    refine x_cond (b := (decide (((k : Nat) : Int) < 0))) (by kernel_rfl) (fun h31 => ?_) (fun h31 => ?_)
    · have h31 := of_decide_eq_true h31
      exfalso; omega
    · have h31 := of_decide_eq_false h31
      refine x_exit (fun a ha => hK18 _ _ ?_ a ha)
      refine x_seq (fun K32 hK33 => ?_)
      refine x_region ?_
      refine x_pure (f' := [(0, .slice none 0 0), (1, .int .i64 ((bitsv .and .i64 x 65535) % 1)), (5, .int .i64 0)]) (cs := [fun _ => InR .i64 1, fun _ => 0 ≤ ((bitsv .and .i64 x 65535) : Int) ∧ 0 < (1 : Int)]) 7 [] [0, 1, 5] [] (by kernel_rfl) (c_cons (in64 (by omega) (by omega)) (c_cons (by constructor <;> omega) c_nil)) ?_
      refine x_end rfl (fun a ha => hK33 _ _ ?_ a ha)
      refine x_seq (fun K34 hK35 => ?_)
      refine x_drawn [1, 8, 12] (by kernel_rfl) (fun w36 hh37 hc38 => ?_)
      have hu39 := Up.step hu26 hc38 (fun _ _ h => h)
      have hT40 := tables_ch hc38 hT25 (fun h => h) (fun h => h)
      refine x_dpure (f' := [(0, .slice none 0 0), (1, .int .i64 ((bitsv .and .i64 x 65535) % 1)), (5, .int .i64 0), (34, .slice none 0 0), (36, .int .i64 0)]) (cs := []) [0, 2] [0, 2] [] [0, 1, 5, 34, 36] [] (by kernel_rfl) rfl rfl (c_eq c_nil) ?_
      refine x_dkill 1 [0, 2, 1] (by kernel_rfl) rfl rfl (by decide) (e_call (some 35) (by kernel_rfl) (columns_any _ _ 0 [] _ hT40 (runes_nil _) (by omega)) ?_)
      rintro e w41 ⟨rfl, hq⟩
      refine ⟨_, rfl, ?_⟩
      have hc42 := ch_eq hq
      clear hq
      have hu43 := Up.step hu39 hc42 (fun _ _ h => h)
      have hT44 := tables_ch hc42 hT40 (fun h => h) (fun h => h)
      change WD _ _ _ _ _ (fun _ => True) [0, 2, 1] [(35, .int .i64 (colsI [])), (0, .slice none 0 0), (1, .int .i64 ((bitsv .and .i64 x 65535) % 1)), (5, .int .i64 0), (34, .slice none 0 0), (36, .int .i64 0)] _
      refine x_dpureT (f' := [(0, .slice none 0 0), (1, .int .i64 ((bitsv .and .i64 x 65535) % 1)), (5, .int .i64 0), (38, .bool (((colsI []) : Int) == 0))]) (cs := []) [0, 2, 1, 3, 4] [3, 4] [] [0, 1, 5, 38] [] (by kernel_rfl) rfl  (fun _ => c_nil) ?_
      refine bool_split (M := fun bb => WD _ _ _ _ _ _ [0, 2, 1, 3, 4] [(0, .slice none 0 0), (1, .int .i64 ((bitsv .and .i64 x 65535) % 1)), (5, .int .i64 0), (38, .bool bb)] _) (((colsI []) : Int) == 0) (fun h45 => ?_) (fun h45 => ?_)
      · have h45 := beq_iff_eq.1 h45
        refine x_dpureT (f' := [(38, .bool true), (41, .slice none (((bitsv .and .i64 x 65535) % 1) : Int).toNat 0), (45, .slice none (0 - (((bitsv .and .i64 x 65535) % 1) : Int).toNat) (0 - (((bitsv .and .i64 x 65535) % 1) : Int).toNat)), (48, .int .i64 0)]) (cs := [fun _ => 0 ≤ (((bitsv .and .i64 x 65535) % 1) : Int) ∧ (((bitsv .and .i64 x 65535) % 1) : Int) ≤ (0 : Nat), fun _ => 0 ≤ (((bitsv .and .i64 x 65535) % 1) : Int) ∧ (((bitsv .and .i64 x 65535) % 1) : Int) ≤ (0 : Nat)]) [0, 2, 1, 3, 4, 5, 6, 7, 9, 10, 11, 14] [5, 6, 7, 9, 10, 11, 14] [] [38, 41, 45, 48] [] (by kernel_rfl) rfl  (fun _ => (c_cons (by constructor <;> omega) (c_cons (by constructor <;> omega) c_nil))) ?_
        refine x_dkill 8 [0, 2, 1, 3, 4, 5, 6, 7, 9, 10, 11, 14, 8] (by kernel_rfl) rfl rfl (by decide) (e_call (some 42) (by kernel_rfl) (columns_any _ _ 0 [] _ hT44 (runes_nil' _ (n := (((bitsv .and .i64 x 65535) % 1) : Int).toNat) (by omega)) (by omega)) ?_)
        rintro e w46 ⟨rfl, hq⟩
        refine ⟨_, rfl, ?_⟩
        have hc47 := ch_eq hq
        clear hq
        have hu48 := Up.step hu43 hc47 (fun _ _ h => h)
        have hT49 := tables_ch hc47 hT44 (fun h => h) (fun h => h)
        change WD _ _ _ _ _ (fun _ => True) [0, 2, 1, 3, 4, 5, 6, 7, 9, 10, 11, 14, 8] [(42, .int .i64 (colsI [])), (38, .bool true), (41, .slice none (((bitsv .and .i64 x 65535) % 1) : Int).toNat 0), (45, .slice none (0 - (((bitsv .and .i64 x 65535) % 1) : Int).toNat) (0 - (((bitsv .and .i64 x 65535) % 1) : Int).toNat)), (48, .int .i64 0)] _
        refine x_dkill 12 [0, 2, 1, 3, 4, 5, 6, 7, 9, 10, 11, 14, 8, 12] (by kernel_rfl) rfl rfl (by decide) (e_call (some 46) (by kernel_rfl) (columns_any _ _ (0 - (((bitsv .and .i64 x 65535) % 1) : Int).toNat) [] _ hT49 (runes_nil' _ (n := (0 - (((bitsv .and .i64 x 65535) % 1) : Int).toNat)) (by omega)) (by omega)) ?_)
        rintro e w50 ⟨rfl, hq⟩
        refine ⟨_, rfl, ?_⟩
        have hc51 := ch_eq hq
        clear hq
        have hu52 := Up.step hu48 hc51 (fun _ _ h => h)
        have hT53 := tables_ch hc51 hT49 (fun h => h) (fun h => h)
        change WD _ _ _ _ _ (fun _ => True) [0, 2, 1, 3, 4, 5, 6, 7, 9, 10, 11, 14, 8, 12] [(46, .int .i64 (colsI [])), (42, .int .i64 (colsI [])), (38, .bool true), (41, .slice none (((bitsv .and .i64 x 65535) % 1) : Int).toNat 0), (45, .slice none (0 - (((bitsv .and .i64 x 65535) % 1) : Int).toNat) (0 - (((bitsv .and .i64 x 65535) % 1) : Int).toNat)), (48, .int .i64 0)] _
        refine x_dpureT (f' := [(4, .bool ((((colsI []) + (colsI [])) : Int) == 0))]) (cs := [fun _ => InR .i64 ((colsI []) + (colsI []))]) [0, 2, 1, 3, 4, 5, 6, 7, 9, 10, 11, 14, 8, 12, 13, 15, 16, 17] [13, 15, 16, 17] [] [4] [] (by kernel_rfl) rfl  (fun _ => (c_cons (in64 (by omega) (by omega)) c_nil)) ?_
        refine x_dend rfl (by kernel_rfl) (fun a ha => hK35 _ _ ?_ a ha)
        refine x_ret (x_done1 rfl rfl ?_)
        exact ⟨rfl, Up.below hu52⟩
      · have h45 := beq_eq_false_iff_ne.1 h45
        exact absurd rfl h45
end Go.Proofs.YtamccnffnljadaaDoor.X
