/- What the proof of StateAny needs, part 3: the walks of the program's functions and the plain laws about them. -/
import Derived.Test.YtclnfbmmaofpjaaDoorQA2
set_option linter.unusedSimpArgs false
set_option linter.unusedVariables false
namespace Go.Proofs.YtclnfbmmaofpjaaDoor.X
open Go Go.RowKit Go.Proofs.YtclnfbmmaofpjaaDoor
def okAt (l : List Cel) (i : Nat) : Prop := ((gc l (i : Int)).rune = 0 → pairedB l ((i : Int) - 1) = true) ∧ ((gc l (i : Int)).rune ≠ 0 → celB (gc l (i : Int)) = true ∧ (wideB (gc l (i : Int)).rune = true → pairedB l (i : Int) = true))
theorem ok_next {l : List Cel} {k : Nat} (h : ∀ i : Nat, i < k → okAt l i) (hb : okAt l k) : ∀ i : Nat, i < k + 1 → okAt l i := fun i hi => by
  rcases Nat.lt_or_ge i k with h' | h'
  · exact h i h'
  · obtain rfl : i = k := by omega
    exact hb
set_option maxHeartbeats 4000000 in
theorem whole_any (b n cap : Nat) (l : List Cel) (w : World) (hT : Tables w) (hr : Rd w (some ⟨b, 0, none⟩) (flat l)) (hb : b < w.heap.size) (hln : l.length = n) (hnb : n ≤ 1000000) : Calls Tryd.prog 8 [.slice (some ⟨b, 0, none⟩) n cap].toArray w fun e w' => e = .returned (.bool (wholeB l)) ∧ Ch (fun _ => False) w w' := by
 refine yA Tryd.func8 rfl <| ysr <| yp 1 [] .z <| ye <| ys <| ysr <| yp 3 [] .z <| ye <| x_block <| ykeep [0, 5, 6, 7] (f' := [(0, .slice (some ⟨b, 0, none⟩) n cap), (5, .slice (some ⟨b, 0, none⟩) n cap), (6, iX ((n : Nat) : Int)), (7, iX 0)]) <| x_loop (σ := Nat) (fun k => [(0, .slice (some ⟨b, 0, none⟩) n cap), (5, .slice (some ⟨b, 0, none⟩) n cap), (6, iX ((n : Nat) : Int)), (7, iX ((k : Nat) : Int))]) (fun k u => k ≤ n ∧ (∀ i : Nat, i < k → okAt l i) ∧ Ch (fun _ => False) w u) (fun k => n - k) 0 rfl ?_ ?_
 ·exact ⟨Nat.zero_le _, fun i hi => absurd hi (Nat.not_lt_zero i), Ch.refl _ _⟩
 intro k w10 hI11 K12 hL13
 obtain ⟨hk, hok, hc14⟩ := hI11
 have hu15 := Up.step (Up.refl w.heap.size w) hc14 iZ
 have hT16 := tables_ch hc14 hT id id
 have hr17 := Ch.rd hc14 hr id
 refine ysr <| yp 1 [] .z <| ye <| ys <| yc (rL ((k : Nat) : Int) ((n : Nat) : Int)) (fun hC18 => ?_) fun hC18 => ?_
 ·refine yk <| ys <| x_block <| ysr <| yp 3 [] (.i ((k : Nat) : Int) (n) (.m (c_rune (i := ((k : Nat) : Int)) hr17 (by omega) (by omega)) (.m (c_bold (i := ((k : Nat) : Int)) hr17 (by omega) (by omega)) (.m (c_under (i := ((k : Nat) : Int)) hr17 (by omega) (by omega)) (.m (c_turned (i := ((k : Nat) : Int)) hr17 (by omega) (by omega)) (.m (c_fore (i := ((k : Nat) : Int)) hr17 (by omega) (by omega)) (.m (c_back (i := ((k : Nat) : Int)) hr17 (by omega) (by omega)) (.e .z)))))))) <| yo (yN [rX 0, .bool false, .bool false, .bool false, iX 0, iX 0] 70 fun w19 b20 hb21 hz22 hB23 hc24 => ?_)
  have hlo25 : w.heap.size ≤ b20 := by rw [hb21]; exact Ch.size hu15
  have hlo25l : w.heap.size ≤ b20 := by rw [hb21]; exact Ch.size hc14
  have hu26 := Up.step hu15 hc24 iZ
  have hL27 := Ch.trans hc14 hc24 eZ
  have hT28 := tables_ch hc24 hT16 id id
  have hr29 := Ch.rd hc24 hr17 id
  refine yp 5 [] .z <| yo (yS hB23 fun w30 hB31 hc32 => ?_)
  have hu33 := Up.step hu26 hc32 (fun i hi (h : i = b20) => by omega)
  have hL34 := Ch.trans hL27 hc32 (fun i hi (h : i = b20) => by omega)
  have hT35 := tables_ch hc32 hT28 (fun (h : gWide = b20) => by have := tab_lt hT; omega) (fun (h : gSigns = b20) => by have := tab_lt hT; omega)
  have hr36 := Ch.rd hc32 hr29 (fun (h : b = b20) => by have := (Nat.lt_of_lt_of_le hb (Ch.size hu15)); omega)
  replace hB31 : Blk w30 b20 [rX (gc l ((k : Nat) : Int)).rune, .bool (gc l ((k : Nat) : Int)).sty.bold, .bool (gc l ((k : Nat) : Int)).sty.under, .bool (gc l ((k : Nat) : Int)).sty.turned, iX (gc l ((k : Nat) : Int)).sty.fore, iX (gc l ((k : Nat) : Int)).sty.back] _ := Blk.to hB31 (by kernel_rfl)
  refine ye <| x_block <| ysr <| yp 4 [] (.l (hB31.c 0) .z) <| ye <| yc (rE (gc l ((k : Nat) : Int)).rune 0) (fun hC37 => ?_) fun hC37 => ?_
  ·have hf38 := hC37
   refine ysr <| yp 3 [] (.q6 (((k : Nat) : Int) - 1) .z) ?_
   refine yo (yQ (paired_any b n cap l (((k : Nat) : Int) - 1) _ hT35 hr36 (Nat.lt_of_lt_of_le hb (Ch.size hu33)) hln (by omega) (by constructor <;> omega)) fun w40 hc39 => ?_)
   have hu41 := Up.step hu33 hc39 iZ
   have hL42 := Ch.trans hL34 hc39 eZ
   refine yp 5 [] .z <| ye <| yc (rN (rY (pairedB l (((k : Nat) : Int) - 1)))) (fun hC46 => ?_) fun hC46 => ?_
   ·have hf47 := hC46
    refine ysr <| yp 1 [] .z <| ye <| x_ret (rB (rB (rS (then_ret (rB (rS (yR1 (.bool false) ?_)))))))
    refine ⟨congrArg Ending.returned (congrArg Value.bool ?_), Up.ch hu41⟩
    exact (Bool.eq_false_iff.2 fun h => by
     have h2 := wholeB_iff.1 h k (by omega)
     clear h hok
     simp [hf38, hf47] at h2).symm
   have hf48 := hC46
   refine x_skip (nB (nB (nS ?_)))
   refine x_region <| yp 2 [] (.q6 (((k : Nat) : Int) + 1) .z) <| yE (fun a ha => hL13 (k + 1) _ ⟨by omega, ok_next hok ⟨fun h0 => by simp_all, fun h0 => by simp_all⟩, hL42⟩ (by show n - (k + 1) < n - k; omega) a (ha.kp [0, 5, 6, 7]))
  have hf49 := hC37
  refine ysr <| yp 1 [] (.a (hB31.cs 0 6) .z) <| yo (yQ (celB_any (gc l ((k : Nat) : Int)) _ ) fun w51 hc50 => ?_)
  have hu52 := Up.step hu33 hc50 iZ
  have hL53 := Ch.trans hL34 hc50 eZ
  have hT54 := tables_ch hc50 hT35 id id
  have hr55 := Ch.rd hc50 hr36 id
  have hB56 := hB31.ch hc50 id
  refine yp 4 [] .z <| yw [25] (rN (rY (celB (gc l ((k : Nat) : Int))))) (fun hC57 => ?_) fun hC57 => ?_
  ·have hf58 := hC57
   refine yp 15 [] .z <| ye <| yct <| ysr <| yp 1 [] .z <| ye <| x_ret (rB (rB (rS (then_ret (rB (rS (yR1 (.bool false) ?_)))))))
   refine ⟨congrArg Ending.returned (congrArg Value.bool ?_), Up.ch hu52⟩
   exact (Bool.eq_false_iff.2 fun h => by
    have h2 := wholeB_iff.1 h k (by omega)
    clear h hok
    simp [hf49, hf58] at h2).symm
  have hf59 := hC57
  refine yp 6 [] (.l (hB56.c 0) .z) <| yo (yQ (wide_any (gc l ((k : Nat) : Int)).rune _ hT54.1) fun w60 hq => ?_)
  have hc61 := ch_eq hq
  clear hq
  have hu62 := Up.step hu52 hc61 iZ
  have hL63 := Ch.trans hL53 hc61 eZ
  have hT64 := tables_ch hc61 hT54 id id
  have hr65 := Ch.rd hc61 hr55 id
  refine yp 8 [] .z <| yw [29] (rY (wideB (gc l ((k : Nat) : Int)).rune)) (fun hC67 => ?_) fun hC67 => ?_
  ·have hf68 := hC67
   refine yp 10 [] .z ?_
   refine yo (yQ (paired_any b n cap l ((k : Nat) : Int) _ hT64 hr65 (Nat.lt_of_lt_of_le hb (Ch.size hu62)) hln (by omega) (by constructor <;> omega)) fun w70 hc69 => ?_)
   have hu71 := Up.step hu62 hc69 iZ
   have hL72 := Ch.trans hL63 hc69 eZ
   refine yp 15 [] .z <| ye <| yc (rN (rY (pairedB l ((k : Nat) : Int)))) (fun hC76 => ?_) fun hC76 => ?_
   ·have hf77 := hC76
    refine ysr <| yp 1 [] .z <| ye <| x_ret (rB (rB (rS (then_ret (rB (rS (yR1 (.bool false) ?_)))))))
    refine ⟨congrArg Ending.returned (congrArg Value.bool ?_), Up.ch hu71⟩
    exact (Bool.eq_false_iff.2 fun h => by
     have h2 := wholeB_iff.1 h k (by omega)
     clear h hok
     simp [hf49, hf59, hf68, hf77] at h2).symm
   have hf78 := hC76
   refine x_skip (nB (nB (nS ?_)))
   refine x_region <| yp 2 [] (.q6 (((k : Nat) : Int) + 1) .z) <| yE (fun a ha => hL13 (k + 1) _ ⟨by omega, ok_next hok ⟨fun h0 => by simp_all, fun h0 => by simp_all⟩, hL72⟩ (by show n - (k + 1) < n - k; omega) a (ha.kp [0, 5, 6, 7]))
  have hf79 := hC67
  refine yp 15 [] .z <| ye <| ycf <| x_skip (nB (nB (nS ?_)))
  refine x_region <| yp 2 [] (.q6 (((k : Nat) : Int) + 1) .z) <| yE (fun a ha => hL13 (k + 1) _ ⟨by omega, ok_next hok ⟨fun h0 => by simp_all, fun h0 => by simp_all⟩, hL63⟩ (by show n - (k + 1) < n - k; omega) a (ha.kp [0, 5, 6, 7]))
 have hkn : k = n := by omega
 refine x_exit (eS (then_exit (block_exit (nS ?_))))
 refine ysr <| yp 1 [] .z <| ye <| x_ret (yR1 (.bool true) ?_)
 refine ⟨congrArg Ending.returned (congrArg Value.bool ?_), Up.ch hu15⟩
 exact (wholeB_iff.2 fun i hi => hok i (by omega)).symm
theorem ln_some {w : World} {a : Option Addr} {n : Nat} {ro : List Row} {FB : Nat → Prop} (hz : a = none ∨ ∃ b off, a = some ⟨b, off, none⟩) (h : LinesAt w a n ro FB) (hn : 0 < n) : ∃ b off, a = some ⟨b, off, none⟩ := by
 rcases hz with rfl | hz
 ·have e := h.rd.1 rfl
  have := h.len
  rw [List.map_eq_nil_iff] at e
  subst e
  simp at this
  omega
 exact hz
theorem ln_cell {w : World} {b off : Nat} {rows : List Row} (h : Rd w (some ⟨b, off, none⟩) (rows.map Row.val)) {k : Nat} {x : Row} (hx : rows[k]? = some x) : w.cell? ⟨b, off + ((k : Nat) : Int).toNat * 1, none⟩ = some x.val := by
 rw [Int.toNat_natCast, Nat.mul_one]
 exact rd_at h k _ (by rw [List.getElem?_map, hx]; rfl)
end Go.Proofs.YtclnfbmmaofpjaaDoor.X
namespace Go.Proofs.YtclnfbmmaofpjaaDoor.X
open Go Go.RowKit Go.Proofs.YtclnfbmmaofpjaaDoor
theorem flat_snoc (l : List Cel) (c : Cel) : flat l ++ c.vals = flat (l ++ [c]) := by rw [flat_app, flat, flat]; simp
theorem last_gc {l : List Cel} {n : Nat} (hn : l.length = n) (h : 0 < n) : l.getLast? = some (gc l ((n : Int) - 1)) := by
 rw [List.getLast?_eq_getElem?, List.getElem?_eq_getElem (by omega), show ((n : Int) - 1) = ((l.length - 1 : Nat) : Int) by omega, gc_get (by omega)]
theorem own_someC {w : World} {e : TypeId} {sz : Nat} {o : Option Nat} {n cap : Nat} {xs : List Value} (h : Own w e sz o n cap xs) (hn : 0 < n) : ∃ b, o = some b := by
 cases o with
 | none => have := (h.2.2.2.1 rfl).1; omega
 | some b => exact ⟨b, rfl⟩
theorem lineR_n {W : Int} {s0 s s' : RS} {f : Nat} {l : List Cel} (h : lineF f W l s = lineF W.toNat W [] s0) (e : lineF f W l s = (none, s')) : lineR W s0 = ([], false, s') := by
 unfold lineR
 rw [← h, e]
theorem lineR_s {W : Int} {s0 s s' : RS} {f : Nat} {l o : List Cel} (h : lineF f W l s = lineF W.toNat W [] s0) (e : lineF f W l s = (some o, s')) : lineR W s0 = if wholeB o = true then (o, true, s') else ([], false, s') := by
 unfold lineR
 rw [← h, e]
set_option maxHeartbeats 4000000 in
theorem whole_nil (w : World) : Calls Tryd.prog 8 [.slice none 0 0].toArray w fun e w' => e = .returned (.bool (wholeB [])) ∧ Ch (fun _ => False) w w' := by
 refine yA Tryd.func8 rfl <| ysr <| yp 1 [] .z <| ye <| ys <| ysr <| yp 3 [] .z <| ye <| x_block <| yU 1 (yU1 ?_)
 refine ysr <| yp 1 [] .z <| ye <| ys <| ycf <| x_exit (eS (then_exit (block_exit (nS ?_))))
 refine ysr <| yp 1 [] .z <| ye <| x_ret (yR1 (.bool true) ?_)
 exact ⟨rfl, Up.ch (Up.refl w.heap.size w)⟩
theorem if_neg_b {α : Type} {b : Bool} {x y : α} (h : b = false) : (if b = true then x else y) = y := by rw [h]; rfl
set_option maxHeartbeats 4000000 in
theorem takeLine_any {rv D : Nat} {s0 s1 : RS} {W : Int} {l : List Cel} {ok : Bool} {w : World} (hA : RdrAt w rv D s0) (hT : Tables w) (h7 : gTop ≤ rv) (hW : 0 ≤ W ∧ W ≤ 1000) (hL : lineR W s0 = (l, ok, s1)) : Calls Tryd.prog 38 [pX rv, iX W].toArray w fun e w' =>
    ∃ o n cap, e = .returned (.tuple #[.slice (o.map at0) n cap, .bool ok]) ∧ l.length = n ∧ Own w' tCell 6 o n cap (flat l) ∧ (∀ b, o = some b → w.heap.size ≤ b) ∧ RdrAt w' rv D s1 ∧ Ch (fun j => j = rv) w w' := by
  refine yA Tryd.func38 rfl ?_
  refine ysr ?_
  refine yp 2 [] .z ?_
  refine ye ?_
  refine ysr ?_
  refine yp 1 [] .z ?_
  refine ye ?_
  refine ys ?_
  refine x_block ?_
  refine ykeep [0, 1, 6] (f' := [(0, pX rv), (1, iX W), (6, .slice none 0 0)]) ?_
  refine x_loop (σ := List Cel × RS × Option Nat × Nat × Nat) (fun ⟨l, s, o, n, cap⟩ => [(0, pX rv), (1, iX W), (6, .slice (o.map at0) n cap)]) (fun ⟨l, s, o, n, cap⟩ u => (∃ f, W.toNat - l.length ≤ f ∧ lineF f W l s = lineF W.toNat W [] s0) ∧ l.length = n ∧ (n : Int) ≤ W ∧ Own u tCell 6 o n cap (flat l) ∧ (∀ b, o = some b → w.heap.size ≤ b) ∧ RdrAt u rv D s ∧ Ch (fun j => j = rv) w u) (fun ⟨l, s, o, n, cap⟩ => W.toNat - l.length) ([], s0, none, 0, 0) rfl ?_ ?_
  · exact ⟨⟨W.toNat, by simp, rfl⟩, rfl, by omega, Own.nil _ _ _, (fun b e => by cases e), hA, Ch.refl _ _⟩
  · intro p w10 hI11 K12 hL13
    obtain ⟨l, s, o, n, cap⟩ := p
    obtain ⟨⟨f, hf, hfe⟩, hln, hnW, hO, hlo, hA1, hcx⟩ := hI11
    have hnc : n ≤ cap := hO.2.1
    refine ys ?_
    refine ysr ?_
    refine yp 4 [] .z ?_
    refine ye ?_
    refine yc (rL ((n : Nat) : Int) W) (fun hC14 => ?_) fun hC14 => ?_
    · have hnW2 := hC14
      refine yk ?_
      refine x_block ?_
      refine ysr ?_
      refine yp 6 [] (.q6 (W - ((n : Nat) : Int)) (.q6 ((W - ((n : Nat) : Int)) + 1) .z)) ?_
      obtain ⟨x15, s16, hN17⟩ : ∃ x s', numR (((W - ((n : Nat) : Int)) + 1)) s = (x, s') := ⟨_, _, rfl⟩
      have hbd20 := numR_bd (lim := ((W - ((n : Nat) : Int)) + 1)) (s := s)
      rw [hN17] at hbd20
      dsimp only at hbd20
      refine yo (yQ (num_any (lim := ((W - ((n : Nat) : Int)) + 1)) hA1 hN17 (by omega)) ?_)
      rintro w21 ⟨hA18, hc19⟩
      have hX22 : Ch (fun j => j = rv) w w21 := Ch.trans hcx hc19 iZ
      have hO23 := hO.ch hc19 (fun b e (h : b = rv) => by have := hlo b e; have := hA.lt; omega)
      refine yp 8 [] .z ?_
      obtain ⟨x24, s25, hN26⟩ : ∃ x s', numR (1114112) s16 = (x, s') := ⟨_, _, rfl⟩
      have hbd29 := numR_bd (lim := 1114112) (s := s16)
      rw [hN26] at hbd29
      dsimp only at hbd29
      refine yo (yQ (num_any (lim := 1114112) hA18 hN26 (by omega)) ?_)
      rintro w30 ⟨hA27, hc28⟩
      have hX31 : Ch (fun j => j = rv) w w30 := Ch.trans hX22 hc28 iZ
      have hO32 := hO23.ch hc28 (fun b e (h : b = rv) => by have := hlo b e; have := hA.lt; omega)
      refine yp 11 [] (.q3 x24 .z) ?_
      refine yo (yN [rX 0, .bool false, .bool false, .bool false, iX 0, iX 0] 70 fun w33 b34 hb35 hz36 hB37 hc38 => ?_)
      have hbn39 : ∀ b', o = some b' → ¬ b' = b34 := fun b' e => by have := hO32.ltOf e; omega
      have hX40 : Ch (fun j => j = rv) w w33 := Ch.trans hX31 hc38 eZ
      have hlo41 : w.heap.size ≤ b34 := by rw [hb35]; exact Ch.size hX31
      have hO42 := hO32.ch hc38 iZ
      have hA43 := hA27.ch hc38 id id
      refine yp 13 [] .z ?_
      refine yo (yS hB37 fun w44 hB45 hc46 => ?_)
      have hX47 : Ch (fun j => j = rv) w w44 := Ch.trans hX40 hc46 (fun i hi (h : i = b34) => by have := hlo41; omega)
      have hO48 := hO42.ch hc46 (fun b e (h : b = b34) => hbn39 b e h)
      have hA49 := hA43.ch hc46 (fun (h : rv = b34) => by have := hlo41; have := hA.lt; omega) (fun (h : D = b34) => by have := hlo41; have := hA.dlt; omega)
      replace hB45 : Blk w44 b34 [rX x24, .bool false, .bool false, .bool false, iX 0, iX 0] _ := Blk.to hB45 (by kernel_rfl)
      refine ye ?_
      refine ysr ?_
      refine yp 1 [] .z ?_
      obtain ⟨t50, ok51, s52, hN53⟩ : ∃ t ok s', styR s25 = (t, ok, s') := ⟨_, _, _, rfl⟩
      refine yo (yQ (takeStyle_any hA49 hN53) ?_)
      rintro w56 ⟨hA54, hc55⟩
      have hX57 : Ch (fun j => j = rv) w w56 := Ch.trans hX47 hc55 iZ
      have hO58 := hO48.ch hc55 (fun b e (h : b = rv) => by have := hlo b e; have := hA.lt; omega)
      have hB59 := hB45.ch hc55 (fun (h : b34 = rv) => by have := hlo41; have := hA.lt; omega)
      refine yp 5 [] .z ?_
      refine yo (yN [.bool false, .bool false, .bool false, iX 0, iX 0] 30 fun w60 b61 hb62 hz63 hB64 hc65 => ?_)
      have hbn66 : ∀ b', o = some b' → ¬ b' = b61 := fun b' e => by have := hO58.ltOf e; omega
      have hX67 : Ch (fun j => j = rv) w w60 := Ch.trans hX57 hc65 eZ
      have hlo68 : w.heap.size ≤ b61 := by rw [hb62]; exact Ch.size hX57
      have hO69 := hO58.ch hc65 iZ
      have hB70 := hB59.ch hc65 id
      have hA71 := hA54.ch hc65 id id
      refine yo (yS hB64 fun w72 hB73 hc74 => ?_)
      have hX75 : Ch (fun j => j = rv) w w72 := Ch.trans hX67 hc74 (fun i hi (h : i = b61) => by have := hlo68; omega)
      have hO76 := hO69.ch hc74 (fun b e (h : b = b61) => hbn66 b e h)
      have hB77 := hB70.ch hc74 (fun (h : b34 = b61) => by have := hB59.lt; omega)
      have hA78 := hA71.ch hc74 (fun (h : rv = b61) => by have := hlo68; have := hA.lt; omega) (fun (h : D = b61) => by have := hlo68; have := hA.dlt; omega)
      replace hB73 : Blk w72 b61 [.bool t50.bold, .bool t50.under, .bool t50.turned, iX t50.fore, iX t50.back] _ := Blk.to hB73 (by kernel_rfl)
      refine yp 8 [] .z ?_
      refine ye ?_
      refine ysr ?_
      refine yp 2 [] (.a (hB73.cs 0 5) .z) ?_
      refine yo (yS hB77 fun w79 hB80 hc81 => ?_)
      have hX82 : Ch (fun j => j = rv) w w79 := Ch.trans hX75 hc81 (fun i hi (h : i = b34) => by have := hlo41; omega)
      have hO83 := hO76.ch hc81 (fun b e (h : b = b34) => hbn39 b e h)
      have hA84 := hA78.ch hc81 (fun (h : rv = b34) => by have := hlo41; have := hA.lt; omega) (fun (h : D = b34) => by have := hlo41; have := hA.dlt; omega)
      replace hB80 : Blk w79 b34 [rX x24, .bool t50.bold, .bool t50.under, .bool t50.turned, iX t50.fore, iX t50.back] _ := Blk.to hB80 (by kernel_rfl)
      refine ye ?_
      refine ys ?_
      refine ys ?_
      refine yD [] fun w86 hH87 hc88 => ?_
      have hX89 : Ch (fun j => j = rv) w w86 := Ch.trans hX82 hc88 eZ
      have hO90 := hO83.ch hc88 iZ
      have hA91 := hA84.ch hc88 id id
      have hB93 := hB80.ch hc88 id
      refine yd (uL 0 3) [] .z ?_
      refine yv [35] (rN (rY ok51)) (fun hC94 => ?_) fun hC94 => ?_
      · have hok := hC94
        refine yd (uL 3 18) [] .z ?_
        refine yDe (nS ?_)
        refine yct ?_
        refine ysr ?_
        refine yp 2 [] .z ?_
        refine ye ?_
        refine x_ret (rS (rB (then_ret (rB (rS (yR2 [.slice none 0 0, .bool false] .z ?_))))))
        have hS := lineS_eq (W := W) (out := l) (by rw [hln]; exact hN17) hN26 hN53
        rw [if_pos (.inl hok)] at hS
        have hR := lineR_n hfe (lineF_bad (by omega) hf hS)
        rw [hL] at hR
        simp only [Prod.mk.injEq] at hR
        obtain ⟨rfl, rfl, rfl⟩ := hR
        exact ⟨none, 0, 0, rfl, rfl, Own.nil _ _ _, (fun b e => by cases e), hA91, hX89⟩
      · have hok := hC94
        refine yd (uL 3 4) [] .z ?_
        refine yv [39] (rE x15 0) (fun hC95 => ?_) fun hC95 => ?_
        · have hx0 := hC95
          refine yd (uL 7 14) [] .z ?_
          refine yDe (nS ?_)
          refine yct ?_
          refine ysr ?_
          refine yp 2 [] .z ?_
          refine ye ?_
          refine x_ret (rS (rB (then_ret (rB (rS (yR2 [.slice none 0 0, .bool false] .z ?_))))))
          have hS := lineS_eq (W := W) (out := l) (by rw [hln]; exact hN17) hN26 hN53
          rw [if_pos (.inr (.inl hx0))] at hS
          have hR := lineR_n hfe (lineF_bad (by omega) hf hS)
          rw [hL] at hR
          simp only [Prod.mk.injEq] at hR
          obtain ⟨rfl, rfl, rfl⟩ := hR
          exact ⟨none, 0, 0, rfl, rfl, Own.nil _ _ _, (fun b e => by cases e), hA91, hX89⟩
        · have hx0 := hC95
          refine yd (uL 7 4) [] .z ?_
          refine yv [43] (rL 0 ((n : Nat) : Int)) (fun hC96 => ?_) fun hC96 => ?_
          · have hn0 := hC96
            obtain ⟨ob, rfl⟩ := own_someC hO90 (by omega)
            refine yd (uL 11 10) [] (.q6 (((n : Nat) : Int) - 1) (.i (((n : Nat) : Int) - 1) (n) (.m (c_rune (i := (((n : Nat) : Int) - 1)) (Own.rd hO90) (by omega) (by omega)) (.m (c_bold (i := (((n : Nat) : Int) - 1)) (Own.rd hO90) (by omega) (by omega)) (.m (c_under (i := (((n : Nat) : Int) - 1)) (Own.rd hO90) (by omega) (by omega)) (.m (c_turned (i := (((n : Nat) : Int) - 1)) (Own.rd hO90) (by omega) (by omega)) (.m (c_fore (i := (((n : Nat) : Int) - 1)) (Own.rd hO90) (by omega) (by omega)) (.m (c_back (i := (((n : Nat) : Int) - 1)) (Own.rd hO90) (by omega) (by omega)) (.e (.a (hB93.cs 0 6) .z)))))))))) ?_
            refine yDe (nS ?_)
            refine yc (rY ((((gc l (((n : Nat) : Int) - 1)).rune : Int) == x24) && ((((gc l (((n : Nat) : Int) - 1)).sty.bold == t50.bold) && (((gc l (((n : Nat) : Int) - 1)).sty.under == t50.under) && (((gc l (((n : Nat) : Int) - 1)).sty.turned == t50.turned) && ((((gc l (((n : Nat) : Int) - 1)).sty.fore : Int) == t50.fore) && ((((gc l (((n : Nat) : Int) - 1)).sty.back : Int) == t50.back) && true))))) && true))) (fun hC97 => ?_) fun hC97 => ?_
            · have hce := (cel_and (gc l (((n : Nat) : Int) - 1)) (Cel.mk x24 t50)).symm.trans hC97
              refine ysr ?_
              refine yp 2 [] .z ?_
              refine ye ?_
              refine x_ret (rS (rB (then_ret (rB (rS (yR2 [.slice none 0 0, .bool false] .z ?_))))))
              have hS := lineS_eq (W := W) (out := l) (by rw [hln]; exact hN17) hN26 hN53
              rw [if_pos (.inr (.inr (by rw [last_gc hln (by omega), eq_of_beq hce])))] at hS
              have hR := lineR_n hfe (lineF_bad (by omega) hf hS)
              rw [hL] at hR
              simp only [Prod.mk.injEq] at hR
              obtain ⟨rfl, rfl, rfl⟩ := hR
              exact ⟨none, 0, 0, rfl, rfl, Own.nil _ _ _, (fun b e => by cases e), hA91, hX89⟩
            · have hce := (cel_and (gc l (((n : Nat) : Int) - 1)) (Cel.mk x24 t50)).symm.trans hC97
              refine yk ?_
              refine ysr ?_
              refine yp 2 [] .z ?_
              refine ye ?_
              refine x_block ?_
              have hS := lineS_eq (W := W) (out := l) (by rw [hln]; exact hN17) hN26 hN53
              rw [if_neg (by rintro (h | h | h); exact absurd (hok.symm.trans h) (by decide); exact hx0 h; exact absurd h (by rw [last_gc hln (by omega)]; intro e; rw [Option.some.inj e] at hce; simp at hce))] at hS
              refine ykeep [0, 1, 6, 8, 54, 55] (f' := [(0, pX rv), (1, iX W), (6, .slice (some ⟨ob, 0, none⟩) n cap), (8, pX b34), (54, iX x15), (55, iX 0)]) ?_
              refine x_loop (σ := Nat × Option Nat × Nat × Nat) (fun ⟨j, o2, n2, cap2⟩ => [(0, pX rv), (1, iX W), (6, .slice (o2.map at0) n2 cap2), (8, pX b34), (54, iX x15), (55, iX ((j : Nat) : Int))]) (fun ⟨j, o2, n2, cap2⟩ u => (j : Int) ≤ x15 ∧ Own u tCell 6 o2 n2 cap2 (flat (l ++ List.replicate j (Cel.mk x24 t50))) ∧ n2 = n + j ∧ (∀ b, o2 = some b → w.heap.size ≤ b) ∧ (∀ b, o2 = some b → ¬ b = b34) ∧ Blk u b34 [rX x24, .bool t50.bold, .bool t50.under, .bool t50.turned, iX t50.fore, iX t50.back] 70 ∧ RdrAt u rv D s52 ∧ Ch (fun j => j = rv) w u) (fun ⟨j, o2, n2, cap2⟩ => (x15 : Int).toNat - j) (0, (some ob), n, cap) rfl ?_ ?_
              · exact ⟨by omega, by rw [List.replicate_zero, List.append_nil]; exact hO90, rfl, hlo, hbn39, hB93, hA91, hX89⟩
              · intro q w98 hI99 K100 hL101
                obtain ⟨j, o2, n2, cap2⟩ := q
                obtain ⟨hjx0, hO2, hn2, hlo2, hne2, hB2, hA2, hcx2⟩ := hI99
                have hnc2 : n2 ≤ cap2 := hO2.2.1
                refine ysr ?_
                refine yp 1 [] .z ?_
                refine ye ?_
                refine ys ?_
                refine yc (rL ((j : Nat) : Int) x15) (fun hC102 => ?_) fun hC102 => ?_
                · have hjl := hC102
                  refine yk ?_
                  refine ys ?_
                  refine x_block ?_
                  refine x_region ?_
                  refine yp 2 [] (.a (hB2.cs 0 6) .z) ?_
                  refine yo (yB [rX x24, .bool t50.bold, .bool t50.under, .bool t50.turned, iX t50.fore, iX t50.back] 70 1 fun w103 b104 hb105 hz106 hB107 hc108 => ?_)
                  have hbn109 : ∀ b', o2 = some b' → ¬ b' = b104 := fun b' e => by have := hO2.ltOf e; omega
                  have hX110 : Ch (fun j => j = rv) w w103 := Ch.trans hcx2 hc108 eZ
                  have hlo111 : w.heap.size ≤ b104 := by rw [hb105]; exact Ch.size hcx2
                  have hO112 := hO2.ch hc108 iZ
                  have hA113 := hA2.ch hc108 id id
                  have hB114 := hB2.ch hc108 id
                  refine yo (e_app' 70 6 32 o2 n2 cap2 (flat (l ++ List.replicate j (Cel.mk x24 t50))) (some ⟨b104, 0, none⟩) 1 1 [rX x24, .bool t50.bold, .bool t50.under, .bool t50.turned, iX t50.fore, iX t50.back] (some 60) (n2 + 1) rfl (flat ((l ++ List.replicate j (Cel.mk x24 t50)) ++ [(Cel.mk x24 t50)])) (flat_snoc (l ++ List.replicate j (Cel.mk x24 t50)) (Cel.mk x24 t50)) (by kernel_rfl) hO112 (Rd.all hB107) rfl rfl (fun h => by cases h) (by constructor <;> first | omega | (simp only [maxLen]; omega)) ?_)
                  intro w115 og116 cp117 hO118 hne119 hpos120 hc121
                  have hlo122 : ∀ b, og116 = some b → w.heap.size ≤ b := fun b e => by
                    rcases hne119 with h | ⟨g', h, h'⟩
                    · exact hlo2 b (h ▸ e)
                    · rw [h] at e; have := Option.some.inj e; have := Ch.size hX110; omega
                  have hap123 := App.of hne119 hc121
                  have hbn124 := hap123.apart hB114.lt hne2
                  have hX125 : Ch (fun j => j = rv) w w115 := Ch.trans hX110 hc121 (fun i hi h => by have := hlo2 _ h; omega)
                  have hA126 := hA113.ch hc121 (fun h => by have := hlo2 _ h; have := hA.lt; omega) (fun h => by have := hlo2 _ h; have := hA.dlt; omega)
                  have hB127 := hB114.ch hc121 (fun h => hne2 _ h rfl)
                  refine yp 5 [] .z ?_
                  refine yE (nB (nS ?_))
                  refine x_region ?_
                  refine yp 2 [] (.q6 (((j : Nat) : Int) + 1) .z) ?_
                  refine yE (fun a ha => hL101 (j + 1, og116, (n2 + 1), cp117) _ ⟨by omega, by rw [List.replicate_succ', ← List.append_assoc]; exact hO118, by omega, hlo122, hbn124, hB127, hA126, hX125⟩ (by show (x15 : Int).toNat - (j + 1) < (x15 : Int).toNat - j; omega) a (ha.kp [0, 1, 6, 8, 54, 55]))
                · have hjl := hC102
                  have hjx : j = (x15 : Int).toNat := by omega
                  subst hjx
                  obtain ⟨f', hff, hfe2⟩ := lineF_go (by omega) hf hS
                  rw [hfe2] at hfe
                  refine x_exit (eS (then_exit (block_exit (nB  (fun a ha => hL13 (l ++ List.replicate (x15 : Int).toNat (Cel.mk x24 t50), s52, o2, n2, cap2) _ ⟨⟨f', by rw [List.length_append, List.length_replicate]; omega, hfe⟩, by rw [List.length_append, List.length_replicate]; omega, by omega, hO2, hlo2, hA2, hcx2⟩ (by show W.toNat - (l ++ List.replicate (x15 : Int).toNat (Cel.mk x24 t50)).length < W.toNat - l.length; rw [List.length_append, List.length_replicate]; omega) a (ha.kp [0, 1, 6]))))))
          · have hn0 := hC96
            refine yd (uL 11 10) [] .z ?_
            refine yDe (nS ?_)
            refine ycf ?_
            refine yk ?_
            refine ysr ?_
            refine yp 2 [] .z ?_
            refine ye ?_
            refine x_block ?_
            have hS := lineS_eq (W := W) (out := l) (by rw [hln]; exact hN17) hN26 hN53
            rw [if_neg (by rintro (h | h | h); exact absurd (hok.symm.trans h) (by decide); exact hx0 h; exact absurd h (by rw [List.eq_nil_of_length_eq_zero (show l.length = 0 by omega)]; intro e; cases e))] at hS
            refine ykeep [0, 1, 6, 8, 54, 55] (f' := [(0, pX rv), (1, iX W), (6, .slice (o.map at0) n cap), (8, pX b34), (54, iX x15), (55, iX 0)]) ?_
            refine x_loop (σ := Nat × Option Nat × Nat × Nat) (fun ⟨j, o2, n2, cap2⟩ => [(0, pX rv), (1, iX W), (6, .slice (o2.map at0) n2 cap2), (8, pX b34), (54, iX x15), (55, iX ((j : Nat) : Int))]) (fun ⟨j, o2, n2, cap2⟩ u => (j : Int) ≤ x15 ∧ Own u tCell 6 o2 n2 cap2 (flat (l ++ List.replicate j (Cel.mk x24 t50))) ∧ n2 = n + j ∧ (∀ b, o2 = some b → w.heap.size ≤ b) ∧ (∀ b, o2 = some b → ¬ b = b34) ∧ Blk u b34 [rX x24, .bool t50.bold, .bool t50.under, .bool t50.turned, iX t50.fore, iX t50.back] 70 ∧ RdrAt u rv D s52 ∧ Ch (fun j => j = rv) w u) (fun ⟨j, o2, n2, cap2⟩ => (x15 : Int).toNat - j) (0, o, n, cap) rfl ?_ ?_
            · exact ⟨by omega, by rw [List.replicate_zero, List.append_nil]; exact hO90, rfl, hlo, hbn39, hB93, hA91, hX89⟩
            · intro q w128 hI129 K130 hL131
              obtain ⟨j, o2, n2, cap2⟩ := q
              obtain ⟨hjx0, hO2, hn2, hlo2, hne2, hB2, hA2, hcx2⟩ := hI129
              have hnc2 : n2 ≤ cap2 := hO2.2.1
              refine ysr ?_
              refine yp 1 [] .z ?_
              refine ye ?_
              refine ys ?_
              refine yc (rL ((j : Nat) : Int) x15) (fun hC132 => ?_) fun hC132 => ?_
              · have hjl := hC132
                refine yk ?_
                refine ys ?_
                refine x_block ?_
                refine x_region ?_
                refine yp 2 [] (.a (hB2.cs 0 6) .z) ?_
                refine yo (yB [rX x24, .bool t50.bold, .bool t50.under, .bool t50.turned, iX t50.fore, iX t50.back] 70 1 fun w133 b134 hb135 hz136 hB137 hc138 => ?_)
                have hbn139 : ∀ b', o2 = some b' → ¬ b' = b134 := fun b' e => by have := hO2.ltOf e; omega
                have hX140 : Ch (fun j => j = rv) w w133 := Ch.trans hcx2 hc138 eZ
                have hlo141 : w.heap.size ≤ b134 := by rw [hb135]; exact Ch.size hcx2
                have hO142 := hO2.ch hc138 iZ
                have hA143 := hA2.ch hc138 id id
                have hB144 := hB2.ch hc138 id
                refine yo (e_app' 70 6 32 o2 n2 cap2 (flat (l ++ List.replicate j (Cel.mk x24 t50))) (some ⟨b134, 0, none⟩) 1 1 [rX x24, .bool t50.bold, .bool t50.under, .bool t50.turned, iX t50.fore, iX t50.back] (some 60) (n2 + 1) rfl (flat ((l ++ List.replicate j (Cel.mk x24 t50)) ++ [(Cel.mk x24 t50)])) (flat_snoc (l ++ List.replicate j (Cel.mk x24 t50)) (Cel.mk x24 t50)) (by kernel_rfl) hO142 (Rd.all hB137) rfl rfl (fun h => by cases h) (by constructor <;> first | omega | (simp only [maxLen]; omega)) ?_)
                intro w145 og146 cp147 hO148 hne149 hpos150 hc151
                have hlo152 : ∀ b, og146 = some b → w.heap.size ≤ b := fun b e => by
                  rcases hne149 with h | ⟨g', h, h'⟩
                  · exact hlo2 b (h ▸ e)
                  · rw [h] at e; have := Option.some.inj e; have := Ch.size hX140; omega
                have hap153 := App.of hne149 hc151
                have hbn154 := hap153.apart hB144.lt hne2
                have hX155 : Ch (fun j => j = rv) w w145 := Ch.trans hX140 hc151 (fun i hi h => by have := hlo2 _ h; omega)
                have hA156 := hA143.ch hc151 (fun h => by have := hlo2 _ h; have := hA.lt; omega) (fun h => by have := hlo2 _ h; have := hA.dlt; omega)
                have hB157 := hB144.ch hc151 (fun h => hne2 _ h rfl)
                refine yp 5 [] .z ?_
                refine yE (nB (nS ?_))
                refine x_region ?_
                refine yp 2 [] (.q6 (((j : Nat) : Int) + 1) .z) ?_
                refine yE (fun a ha => hL131 (j + 1, og146, (n2 + 1), cp147) _ ⟨by omega, by rw [List.replicate_succ', ← List.append_assoc]; exact hO148, by omega, hlo152, hbn154, hB157, hA156, hX155⟩ (by show (x15 : Int).toNat - (j + 1) < (x15 : Int).toNat - j; omega) a (ha.kp [0, 1, 6, 8, 54, 55]))
              · have hjl := hC132
                have hjx : j = (x15 : Int).toNat := by omega
                subst hjx
                obtain ⟨f', hff, hfe2⟩ := lineF_go (by omega) hf hS
                rw [hfe2] at hfe
                refine x_exit (eS (then_exit (block_exit (nB  (fun a ha => hL13 (l ++ List.replicate (x15 : Int).toNat (Cel.mk x24 t50), s52, o2, n2, cap2) _ ⟨⟨f', by rw [List.length_append, List.length_replicate]; omega, hfe⟩, by rw [List.length_append, List.length_replicate]; omega, by omega, hO2, hlo2, hA2, hcx2⟩ (by show W.toNat - (l ++ List.replicate (x15 : Int).toNat (Cel.mk x24 t50)).length < W.toNat - l.length; rw [List.length_append, List.length_replicate]; omega) a (ha.kp [0, 1, 6]))))))
    · have hnW2 := hC14
      rcases o with _ | ob
      · obtain ⟨rfl, rfl⟩ := hO.2.2.2.1 rfl
        obtain rfl := List.eq_nil_of_length_eq_zero hln
        refine x_exit (eS (then_exit (block_exit (nS ?_))))
        refine ys ?_
        refine ysr ?_
        refine yp 1 [] .z ?_
        refine yo (yQ (whole_nil _) fun w159 hc158 => ?_)
        have hX160 : Ch (fun j => j = rv) w w159 := Ch.trans hcx hc158 eZ
        have hA161 := hA1.ch hc158 id id
        have hO162 := hO.ch hc158 iZ
        refine yp 3 [] .z ?_
        refine ye ?_
        refine yc (rN (rY (wholeB []))) (fun hC163 => ?_) fun hC163 => ?_
        · have hwh := hC163
          refine ysr ?_
          refine yp 2 [] .z ?_
          refine ye ?_
          refine x_ret (rS (yR2 [.slice none 0 0, .bool false] .z ?_))
          have hR := lineR_s hfe (lineF_done (by first | omega | (simp; omega)))
          rw [hL] at hR
          rw [if_neg_b hwh] at hR
          simp only [Prod.mk.injEq] at hR
          obtain ⟨rfl, rfl, rfl⟩ := hR
          exact ⟨none, 0, 0, rfl, rfl, Own.nil _ _ _, (fun b e => by cases e), hA161, hX160⟩
        · have hwh := hC163
          refine yk ?_
          refine ysr ?_
          refine yp 3 [] .z ?_
          refine ye ?_
          refine x_ret (yR2 [.slice none 0 0, .bool true] .z ?_)
          have hR := lineR_s hfe (lineF_done (by first | omega | (simp; omega)))
          rw [hL] at hR
          rw [if_pos hwh] at hR
          simp only [Prod.mk.injEq] at hR
          obtain ⟨rfl, rfl, rfl⟩ := hR
          exact ⟨none, _, _, rfl, rfl, hO162, hlo, hA161, hX160⟩
      · refine x_exit (eS (then_exit (block_exit (nS ?_))))
        refine ys ?_
        refine ysr ?_
        refine yp 1 [] .z ?_
        refine yo (yQ (whole_any ob n cap l _ (tables_ch hcx hT (fun (h : gWide = rv) => by have := g_lt; omega) (fun (h : gSigns = rv) => by have := g_lt; omega)) (Own.rd hO) hO.lt hln (by omega)) fun w165 hc164 => ?_)
        have hX166 : Ch (fun j => j = rv) w w165 := Ch.trans hcx hc164 eZ
        have hA167 := hA1.ch hc164 id id
        have hO168 := hO.ch hc164 iZ
        refine yp 3 [] .z ?_
        refine ye ?_
        refine yc (rN (rY (wholeB l))) (fun hC169 => ?_) fun hC169 => ?_
        · have hwh := hC169
          refine ysr ?_
          refine yp 2 [] .z ?_
          refine ye ?_
          refine x_ret (rS (yR2 [.slice none 0 0, .bool false] .z ?_))
          have hR := lineR_s hfe (lineF_done (by first | omega | (simp; omega)))
          rw [hL] at hR
          rw [if_neg_b hwh] at hR
          simp only [Prod.mk.injEq] at hR
          obtain ⟨rfl, rfl, rfl⟩ := hR
          exact ⟨none, 0, 0, rfl, rfl, Own.nil _ _ _, (fun b e => by cases e), hA167, hX166⟩
        · have hwh := hC169
          refine yk ?_
          refine ysr ?_
          refine yp 3 [] .z ?_
          refine ye ?_
          refine x_ret (yR2 [.slice (some ⟨ob, 0, none⟩) n cap, .bool true] .z ?_)
          have hR := lineR_s hfe (lineF_done (by first | omega | (simp; omega)))
          rw [hL] at hR
          rw [if_pos hwh] at hR
          simp only [Prod.mk.injEq] at hR
          obtain ⟨rfl, rfl, rfl⟩ := hR
          exact ⟨(some ob), _, _, rfl, hln, hO168, hlo, hA167, hX166⟩
end Go.Proofs.YtclnfbmmaofpjaaDoor.X
namespace Go.Proofs.YtclnfbmmaofpjaaDoor.X
open Go Go.RowKit Go.Proofs.YtclnfbmmaofpjaaDoor
theorem byt_cell {w : World} {b : Nat} {x : ByteArray} (h : Rd w (some ⟨b, 0, none⟩) (bytV x)) {i : Nat} (hi : i < x.size) : w.cell? ⟨b, 0 + ((i : Nat) : Int).toNat * 1, none⟩ = some (uX (bt x (i : Int))) := by
 rw [Int.toNat_natCast, Nat.mul_one]
 exact rd_at h i _ (bytV_get x hi)
theorem all_range {n : Nat} {p : Nat → Bool} (h : ∀ i, i < n → p i = true) : (List.range n).all p = true := List.all_eq_true.2 fun i hi => h i (List.mem_range.1 hi)
theorem all_range_f {n k : Nat} {p : Nat → Bool} (hk : k < n) (h : p k = false) : (List.range n).all p = false := Bool.eq_false_iff.2 fun e => by
  rw [List.all_eq_true.1 e k (List.mem_range.2 hk)] at h; cases h
theorem marksB_t {lo : Nat} {f : Int → Bool} {m : ByteArray} (h1 : ¬ (m.size : Int) < lo) (h2 : ¬ 2 < (m.size : Int)) (h : ∀ i : Nat, i < m.size → f (bt m (i : Int)) = true) : true = marksB lo f m := by
 unfold marksB
 rw [all_range h, decide_eq_true (show lo ≤ m.size by omega), decide_eq_true (show m.size ≤ 2 by omega)]; rfl
theorem marksB_lo {lo : Nat} {f : Int → Bool} {m : ByteArray} (h1 : (m.size : Int) < lo) : false = marksB lo f m := by
 unfold marksB
 rw [decide_eq_false (show ¬ lo ≤ m.size by omega)]; rfl
theorem marksB_hi {lo : Nat} {f : Int → Bool} {m : ByteArray} (h2 : 2 < (m.size : Int)) : false = marksB lo f m := by
 unfold marksB
 rw [decide_eq_false (show ¬ m.size ≤ 2 by omega), Bool.and_false]; rfl
theorem marksB_at {lo : Nat} {f : Int → Bool} {m : ByteArray} {k : Nat} (hk : k < m.size) (h : f (bt m (k : Int)) = false) : false = marksB lo f m := by
 unfold marksB
 rw [all_range_f hk h, Bool.and_false]
theorem textB_t {x : ByteArray} (h : ∀ i : Nat, i < x.size → decide (32 ≤ bt x (i : Int)) = true) : decide ((x.size : Int) ≤ 40) = textB x := by
 unfold textB
 rw [all_range h, Bool.true_and]
 exact decide_eq_decide.2 (by omega)
theorem textB_at {x : ByteArray} {k : Nat} (hk : k < x.size) (h : bt x (k : Int) < 32) : false = textB x := by
 unfold textB
 rw [all_range_f hk (decide_eq_false (by omega))]; rfl
theorem numsB_t {l : List Int} (h : ∀ i : Nat, i < l.length → 0 ≤ l.getD i 0 ∧ l.getD i 0 ≤ 9999) : decide ((l.length : Int) ≤ 8) = numsB l := by
 unfold numsB
 have : l.all (fun n => decide (0 ≤ n) && decide (n ≤ 9999)) = true := List.all_eq_true.2 fun x hx => by
  obtain ⟨i, hi, rfl⟩ := List.getElem_of_mem hx
  have := h i hi
  simp only [List.getD, List.getElem?_eq_getElem hi, Option.getD_some] at this
  simp [this.1, this.2]
 rw [this, Bool.true_and]
 exact decide_eq_decide.2 (by omega)
theorem numsB_at {l : List Int} {k : Nat} (hk : k < l.length) (h : ¬ (0 ≤ l.getD k 0 ∧ l.getD k 0 ≤ 9999)) : false = numsB l := by
 unfold numsB
 have : l.all (fun n => decide (0 ≤ n) && decide (n ≤ 9999)) = false := Bool.eq_false_iff.2 fun e => by
  have := List.all_eq_true.1 e _ (getD_mem hk)
  simp only [Bool.and_eq_true, decide_eq_true_eq] at this
  exact h this
 rw [this]; rfl
theorem ints_cell64 {w : World} {b o : Nat} {l : List Int} (h : Rd w (some ⟨b, o, none⟩) (l.map (Value.int .i64))) {k : Nat} (hk : k < l.length) : w.cell? ⟨b, o + ((k : Nat) : Int).toNat * 1, none⟩ = some (iX (l.getD k 0)) := by
 rw [Int.toNat_natCast, Nat.mul_one]
 refine rd_at h k _ ?_
 rw [List.getElem?_map, List.getElem?_eq_getElem hk]
 simp [List.getD, List.getElem?_eq_getElem hk]
set_option maxHeartbeats 4000000 in
theorem low_any (c : Int) (w : World) : Calls Tryd.prog 21 [uX c].toArray w fun e w' => e = .returned (.bool (lowB c)) ∧ Ch (fun _ => False) w w' := by
 refine yA Tryd.func21 rfl <| ysr <| yp 1 [] .z <| ye <| ysr <| yp 3 [] .z <| yw [5] (rM 32 c) (fun hC10 => ?_) fun hC10 => ?_
 ·refine yp 7 [] .z <| ye <| x_ret (yR1 (.bool (decide (c < 48))) ?_)
  refine ⟨?_, Up.ch (Up.refl w.heap.size w)⟩
  refine congrArg Ending.returned (congrArg Value.bool ?_)
  rw [Bool.eq_iff_iff]
  simp only [lowB, Bool.and_eq_true, decide_eq_true_eq, Bool.false_eq_true, true_iff, false_iff, iff_true, iff_false, not_and]
  omega
 refine yp 7 [] .z <| ye <| x_ret (yR1 (.bool false) ?_)
 refine ⟨?_, Up.ch (Up.refl w.heap.size w)⟩
 refine congrArg Ending.returned (congrArg Value.bool ?_)
 rw [Bool.eq_iff_iff]
 simp only [lowB, Bool.and_eq_true, decide_eq_true_eq, Bool.false_eq_true, true_iff, false_iff, iff_true, iff_false, not_and]
 omega
set_option maxHeartbeats 4000000 in
theorem wide_any (c : Int) (w : World) : Calls Tryd.prog 22 [uX c].toArray w fun e w' => e = .returned (.bool (wideMB c)) ∧ Ch (fun _ => False) w w' := by
 refine yA Tryd.func22 rfl <| ysr <| yp 1 [] .z <| ye <| ysr <| yp 1 [] .z <| yo (yQ (low_any (c) _) fun w11 hc10 => ?_)
 have hu12 := Up.step (Up.refl w.heap.size w) hc10 iZ
 refine yp 3 [] .z <| yw [5] (rY (lowB (c))) (fun hC13 => ?_) fun hC13 => ?_
 ·have hf14 := hC13
  refine yp 11 [] .z <| ye <| x_ret (yR1 (.bool true) ?_)
  refine ⟨congrArg Ending.returned (congrArg Value.bool ?_), Up.ch hu12⟩
  unfold wideMB
  first | (simp [*]; done) | (simp [*]; omega)
 have hf15 := hC13
 refine yp 6 [] .z <| yw [8] (rM 60 c) (fun hC16 => ?_) fun hC16 => ?_
 ·have hf17 := hC16
  refine yp 11 [] .z <| ye <| x_ret (yR1 (.bool (decide (c ≤ 63))) ?_)
  refine ⟨congrArg Ending.returned (congrArg Value.bool ?_), Up.ch hu12⟩
  unfold wideMB
  first | (simp [*]; done) | (simp [*]; omega)
 have hf18 := hC16
 refine yp 11 [] .z <| ye <| x_ret (yR1 (.bool false) ?_)
 refine ⟨congrArg Ending.returned (congrArg Value.bool ?_), Up.ch hu12⟩
 unfold wideMB
 first | (simp [*]; done) | (simp [*]; omega)
set_option maxHeartbeats 4000000 in
theorem marksE_low (p : PS) (pa : Option Addr) (pn pc : Nat) (w : World) : Calls Tryd.prog 20 [.agg #[iX p.state, uX p.utf.b0, uX p.utf.b1, uX p.utf.b2, iX p.utf.n, .string p.marks, .slice pa pn pc, .string p.text, iX p.within], iX 1, iX 2, .func (.func 21) #[] #[]].toArray w fun e w' => e = .returned (.bool (marksB 1 lowB p.marks)) ∧ Ch (fun _ => False) w w' := by
 refine yA Tryd.func20 rfl <| ysr <| yo (yN [iX p.state, uX p.utf.b0, uX p.utf.b1, uX p.utf.b2, iX p.utf.n, .string p.marks, .slice pa pn pc, .string p.text, iX p.within] 41 fun w10 b11 hb12 hz13 hB14 hc15 => ?_)
 have hlo16 : w.heap.size ≤ b11 := by rw [hb12]; exact Ch.size (Up.refl w.heap.size w)
 have hu17 := Up.step (Up.refl w.heap.size w) hc15 iZ
 refine yp 2 [] .z <| ye <| ys <| ysr <| yp 6 [] (.l (hB14.c 5) .z) <| yw [16] (rL ((p.marks).size : Int) 1) (fun hC18 => ?_) fun hC18 => ?_
 ·have hsz0 := hC18
  refine yp 12 [] .z <| ye <| yct <| ysr <| yp 1 [] .z <| ye <| x_ret (rS (yR1 (.bool false) ?_))
  exact ⟨congrArg Ending.returned (congrArg Value.bool (marksB_lo hsz0)), Up.ch hu17⟩
 have hsz0 := hC18
 refine yp 12 [] (.l (hB14.c 5) .z) <| ye <| yc (rL 2 ((p.marks).size : Int)) (fun hC19 => ?_) fun hC19 => ?_
 ·have hsz1 := hC19
  refine ysr <| yp 1 [] .z <| ye <| x_ret (rS (yR1 (.bool false) ?_))
  exact ⟨congrArg Ending.returned (congrArg Value.bool (marksB_hi hsz1)), Up.ch hu17⟩
 have hsz1 := hC19
 refine yk <| ys <| ysr <| yp 2 [] (.l (hB14.c 5) .z) <| yo (e_tobytes p.marks (some 25) (by kernel_rfl) ?_)
 intro w20 b21 cap22 hb23 hz24 hr25 hc26
 have hlo27 : w.heap.size ≤ b21 := by rw [hb23]; exact Ch.size hu17
 have hu28 := Up.step hu17 hc26 iZ
 refine yp 5 [] .z <| ye <| x_block <| ykeep [3, 25, 26, 27] (f' := [(3, .func (.func 21) #[] #[]), (25, .slice (some ⟨b21, 0, none⟩) (p.marks).size cap22), (26, iX (((p.marks).size : Nat) : Int)), (27, iX 0)]) <| x_loop (σ := Nat) (fun k => [(3, .func (.func 21) #[] #[]), (25, .slice (some ⟨b21, 0, none⟩) (p.marks).size cap22), (26, iX (((p.marks).size : Nat) : Int)), (27, iX ((k : Nat) : Int))]) (fun k u => k ≤ (p.marks).size ∧ (∀ i : Nat, i < k → lowB (bt p.marks (i : Int)) = true) ∧ Rd u (some ⟨b21, 0, none⟩) (bytV p.marks) ∧ Ch (fun _ => False) w20 u) (fun k => (p.marks).size - k) 0 rfl ?_ ?_
 ·exact ⟨Nat.zero_le _, fun i hi => absurd hi (Nat.not_lt_zero i), hr25, Ch.refl _ _⟩
 intro k w30 hI31 K32 hL33
 obtain ⟨hk, hall, hrb, hc34⟩ := hI31
 have hu35 := Up.step hu28 hc34 iZ
 refine ysr <| yp 1 [] .z <| ye <| ys <| yc (rL ((k : Nat) : Int) (((p.marks).size : Nat) : Int)) (fun hC37 => ?_) fun hC37 => ?_
 ·have hf38 := hC37
  refine yk <| ys <| x_block <| ysr <| yp 3 [] (.i ((k : Nat) : Int) ((p.marks).size) (.l (v := uX (bt p.marks ((k : Nat) : Int))) (byt_cell hrb (i := k) (by omega)) .z)) <| ye <| ysr <| yp 2 [] .z <| yo (yQT (low_any ((bt p.marks ((k : Nat) : Int))) _) fun w40 hc39 => ?_)
  have hu41 := Up.step hu35 hc39 iZ
  have hL42 := Ch.trans hc34 hc39 eZ
  have hr44 := Ch.rd hc39 hrb id
  refine yp 4 [] .z <| ye <| yc (rN (rY (lowB ((bt p.marks ((k : Nat) : Int)))))) (fun hC45 => ?_) fun hC45 => ?_
  ·have hat : lowB (bt p.marks ((k : Nat) : Int)) = false := hC45
   refine ysr <| yp 1 [] .z <| ye <| x_ret (rB (rS (then_ret (rB (rS (yR1 (.bool false) ?_))))))
   exact ⟨congrArg Ending.returned (congrArg Value.bool (marksB_at (by omega) hat)), Up.ch hu41⟩
  have hat : lowB (bt p.marks ((k : Nat) : Int)) = true := hC45
  refine x_skip (nB (nS ?_))
  refine x_region <| yp 2 [] (.q6 (((k : Nat) : Int) + 1) .z) <| yE (fun a ha => hL33 (k + 1) _ ⟨by omega, fun i hi => (Nat.lt_or_ge i k).elim (hall i) (fun h => by rw [show i = k by omega]; exact hat), hr44, hL42⟩ (by show (p.marks).size - (k + 1) < (p.marks).size - k; omega) a (ha.kp [3, 25, 26, 27]))
 have hf46 := hC37
 refine x_exit (eS (then_exit (block_exit (nS ?_))))
 refine ysr <| yp 1 [] .z <| ye <| x_ret (yR1 (.bool true) ?_)
 exact ⟨congrArg Ending.returned (congrArg Value.bool (marksB_t hsz0 hsz1 (fun i hi => hall i (by omega)))), Up.ch hu35⟩
set_option maxHeartbeats 4000000 in
theorem marksE_wide (p : PS) (pa : Option Addr) (pn pc : Nat) (w : World) : Calls Tryd.prog 20 [.agg #[iX p.state, uX p.utf.b0, uX p.utf.b1, uX p.utf.b2, iX p.utf.n, .string p.marks, .slice pa pn pc, .string p.text, iX p.within], iX 0, iX 2, .func (.func 22) #[] #[]].toArray w fun e w' => e = .returned (.bool (marksB 0 wideMB p.marks)) ∧ Ch (fun _ => False) w w' := by
 refine yA Tryd.func20 rfl <| ysr <| yo (yN [iX p.state, uX p.utf.b0, uX p.utf.b1, uX p.utf.b2, iX p.utf.n, .string p.marks, .slice pa pn pc, .string p.text, iX p.within] 41 fun w10 b11 hb12 hz13 hB14 hc15 => ?_)
 have hlo16 : w.heap.size ≤ b11 := by rw [hb12]; exact Ch.size (Up.refl w.heap.size w)
 have hu17 := Up.step (Up.refl w.heap.size w) hc15 iZ
 refine yp 2 [] .z <| ye <| ys <| ysr <| yp 6 [] (.l (hB14.c 5) .z) <| yw [16] (rL ((p.marks).size : Int) 0) (fun hC18 => ?_) fun hC18 => ?_
 ·have hsz0 := hC18
  exfalso; omega
 have hsz0 := hC18
 refine yp 12 [] (.l (hB14.c 5) .z) <| ye <| yc (rL 2 ((p.marks).size : Int)) (fun hC19 => ?_) fun hC19 => ?_
 ·have hsz1 := hC19
  refine ysr <| yp 1 [] .z <| ye <| x_ret (rS (yR1 (.bool false) ?_))
  exact ⟨congrArg Ending.returned (congrArg Value.bool (marksB_hi hsz1)), Up.ch hu17⟩
 have hsz1 := hC19
 refine yk <| ys <| ysr <| yp 2 [] (.l (hB14.c 5) .z) <| yo (e_tobytes p.marks (some 25) (by kernel_rfl) ?_)
 intro w20 b21 cap22 hb23 hz24 hr25 hc26
 have hlo27 : w.heap.size ≤ b21 := by rw [hb23]; exact Ch.size hu17
 have hu28 := Up.step hu17 hc26 iZ
 refine yp 5 [] .z <| ye <| x_block <| ykeep [3, 25, 26, 27] (f' := [(3, .func (.func 22) #[] #[]), (25, .slice (some ⟨b21, 0, none⟩) (p.marks).size cap22), (26, iX (((p.marks).size : Nat) : Int)), (27, iX 0)]) <| x_loop (σ := Nat) (fun k => [(3, .func (.func 22) #[] #[]), (25, .slice (some ⟨b21, 0, none⟩) (p.marks).size cap22), (26, iX (((p.marks).size : Nat) : Int)), (27, iX ((k : Nat) : Int))]) (fun k u => k ≤ (p.marks).size ∧ (∀ i : Nat, i < k → wideMB (bt p.marks (i : Int)) = true) ∧ Rd u (some ⟨b21, 0, none⟩) (bytV p.marks) ∧ Ch (fun _ => False) w20 u) (fun k => (p.marks).size - k) 0 rfl ?_ ?_
 ·exact ⟨Nat.zero_le _, fun i hi => absurd hi (Nat.not_lt_zero i), hr25, Ch.refl _ _⟩
 intro k w30 hI31 K32 hL33
 obtain ⟨hk, hall, hrb, hc34⟩ := hI31
 have hu35 := Up.step hu28 hc34 iZ
 refine ysr <| yp 1 [] .z <| ye <| ys <| yc (rL ((k : Nat) : Int) (((p.marks).size : Nat) : Int)) (fun hC37 => ?_) fun hC37 => ?_
 ·have hf38 := hC37
  refine yk <| ys <| x_block <| ysr <| yp 3 [] (.i ((k : Nat) : Int) ((p.marks).size) (.l (v := uX (bt p.marks ((k : Nat) : Int))) (byt_cell hrb (i := k) (by omega)) .z)) <| ye <| ysr <| yp 2 [] .z <| yo (yQT (wide_any ((bt p.marks ((k : Nat) : Int))) _) fun w40 hc39 => ?_)
  have hu41 := Up.step hu35 hc39 iZ
  have hL42 := Ch.trans hc34 hc39 eZ
  have hr44 := Ch.rd hc39 hrb id
  refine yp 4 [] .z <| ye <| yc (rN (rY (wideMB ((bt p.marks ((k : Nat) : Int)))))) (fun hC45 => ?_) fun hC45 => ?_
  ·have hat : wideMB (bt p.marks ((k : Nat) : Int)) = false := hC45
   refine ysr <| yp 1 [] .z <| ye <| x_ret (rB (rS (then_ret (rB (rS (yR1 (.bool false) ?_))))))
   exact ⟨congrArg Ending.returned (congrArg Value.bool (marksB_at (by omega) hat)), Up.ch hu41⟩
  have hat : wideMB (bt p.marks ((k : Nat) : Int)) = true := hC45
  refine x_skip (nB (nS ?_))
  refine x_region <| yp 2 [] (.q6 (((k : Nat) : Int) + 1) .z) <| yE (fun a ha => hL33 (k + 1) _ ⟨by omega, fun i hi => (Nat.lt_or_ge i k).elim (hall i) (fun h => by rw [show i = k by omega]; exact hat), hr44, hL42⟩ (by show (p.marks).size - (k + 1) < (p.marks).size - k; omega) a (ha.kp [3, 25, 26, 27]))
 have hf46 := hC37
 refine x_exit (eS (then_exit (block_exit (nS ?_))))
 refine ysr <| yp 1 [] .z <| ye <| x_ret (yR1 (.bool true) ?_)
 exact ⟨congrArg Ending.returned (congrArg Value.bool (marksB_t hsz0 hsz1 (fun i hi => hall i (by omega)))), Up.ch hu35⟩
set_option maxHeartbeats 4000000 in
theorem ptextE (p : PS) (pa : Option Addr) (pn pc : Nat) (w : World) (htz : p.text.size ≤ 1000) : Calls Tryd.prog 24 [.agg #[iX p.state, uX p.utf.b0, uX p.utf.b1, uX p.utf.b2, iX p.utf.n, .string p.marks, .slice pa pn pc, .string p.text, iX p.within]].toArray w fun e w' => e = .returned (.bool (textB p.text)) ∧ Ch (fun _ => False) w w' := by
 refine yA Tryd.func24 rfl <| ysr <| yo (yN [iX p.state, uX p.utf.b0, uX p.utf.b1, uX p.utf.b2, iX p.utf.n, .string p.marks, .slice pa pn pc, .string p.text, iX p.within] 41 fun w10 b11 hb12 hz13 hB14 hc15 => ?_)
 have hlo16 : w.heap.size ≤ b11 := by rw [hb12]; exact Ch.size (Up.refl w.heap.size w)
 have hu17 := Up.step (Up.refl w.heap.size w) hc15 iZ
 refine yp 2 [] .z <| ye <| ys <| ysr <| yp 2 [] (.l (hB14.c 7) .z) <| yo (e_tobytes p.text (some 7) (by kernel_rfl) ?_)
 intro w18 b19 cap20 hb21 hz22 hr23 hc24
 have hlo25 : w.heap.size ≤ b19 := by rw [hb21]; exact Ch.size hu17
 have hu26 := Up.step hu17 hc24 iZ
 have hB27 := hB14.ch hc24 id
 refine yp 5 [] .z <| ye <| x_block <| ykeep [1, 7, 8, 9] (f' := [(1, pX b11), (7, .slice (some ⟨b19, 0, none⟩) (p.text).size cap20), (8, iX (((p.text).size : Nat) : Int)), (9, iX 0)]) <| x_loop (σ := Nat) (fun k => [(1, pX b11), (7, .slice (some ⟨b19, 0, none⟩) (p.text).size cap20), (8, iX (((p.text).size : Nat) : Int)), (9, iX ((k : Nat) : Int))]) (fun k u => k ≤ (p.text).size ∧ (∀ i : Nat, i < k → (fun c => decide (32 ≤ c)) (bt p.text (i : Int)) = true) ∧ Rd u (some ⟨b19, 0, none⟩) (bytV p.text) ∧ Ch (fun _ => False) w18 u) (fun k => (p.text).size - k) 0 rfl ?_ ?_
 ·exact ⟨Nat.zero_le _, fun i hi => absurd hi (Nat.not_lt_zero i), hr23, Ch.refl _ _⟩
 intro k w28 hI29 K30 hL31
 obtain ⟨hk, hall, hrb, hc32⟩ := hI29
 have hu33 := Up.step hu26 hc32 iZ
 have hB34 := hB27.ch hc32 id
 refine ysr <| yp 1 [] .z <| ye <| ys <| yc (rL ((k : Nat) : Int) (((p.text).size : Nat) : Int)) (fun hC35 => ?_) fun hC35 => ?_
 ·have hf36 := hC35
  refine yk <| ys <| x_block <| ysr <| yp 3 [] (.i ((k : Nat) : Int) ((p.text).size) (.l (v := uX (bt p.text ((k : Nat) : Int))) (byt_cell hrb (i := k) (by omega)) .z)) <| ye <| ysr <| yp 2 [] .z <| ye <| yc (rL (bt p.text ((k : Nat) : Int)) 32) (fun hC37 => ?_) fun hC37 => ?_
  ·have hbad := hC37
   refine ysr <| yp 1 [] .z <| ye <| x_ret (rB (rS (then_ret (rB (rS (yR1 (.bool false) ?_))))))
   exact ⟨congrArg Ending.returned (congrArg Value.bool (textB_at (by omega) hbad)), Up.ch hu33⟩
  have hat : decide (32 ≤ bt p.text ((k : Nat) : Int)) = true := decide_eq_true (by have := hC37; omega)
  refine x_skip (nB (nS ?_))
  refine x_region <| yp 2 [] (.q6 (((k : Nat) : Int) + 1) .z) <| yE (fun a ha => hL31 (k + 1) _ ⟨by omega, fun i hi => (Nat.lt_or_ge i k).elim (hall i) (fun h => by rw [show i = k by omega]; exact hat), hrb, hc32⟩ (by show (p.text).size - (k + 1) < (p.text).size - k; omega) a (ha.kp [1, 7, 8, 9]))
 have hf38 := hC35
 refine x_exit (eS (then_exit (block_exit (nS ?_))))
 refine ysr <| yp 5 [] (.l (hB34.c 7) .z) <| ye <| x_ret (yR1 (.bool (decide (((p.text).size : Int) ≤ 40))) ?_)
 exact ⟨congrArg Ending.returned (congrArg Value.bool (textB_t (fun i hi => hall i (by omega)))), Up.ch hu33⟩
set_option maxHeartbeats 4000000 in
theorem numbersE (p : PS) (pa : Option Addr) (pn pc : Nat) (w : World) (hr : Rd w pa (p.params.map (Value.int .i64))) (hl : p.params.length = pn) (hz : pn = 0 ∨ ∃ b o, pa = some ⟨b, o, none⟩) (hn : pn ≤ 8) : Calls Tryd.prog 23 [.agg #[iX p.state, uX p.utf.b0, uX p.utf.b1, uX p.utf.b2, iX p.utf.n, .string p.marks, .slice pa pn pc, .string p.text, iX p.within]].toArray w fun e w' => e = .returned (.bool (numsB p.params)) ∧ Ch (fun _ => False) w w' := by
 refine yA Tryd.func23 rfl <| ysr <| yo (yN [iX p.state, uX p.utf.b0, uX p.utf.b1, uX p.utf.b2, iX p.utf.n, .string p.marks, .slice pa pn pc, .string p.text, iX p.within] 41 fun w10 b11 hb12 hz13 hB14 hc15 => ?_)
 have hlo16 : w.heap.size ≤ b11 := by rw [hb12]; exact Ch.size (Up.refl w.heap.size w)
 have hu17 := Up.step (Up.refl w.heap.size w) hc15 iZ
 have hr18 := Rd.ch hr hc15 iZ
 refine yp 2 [] .z <| ye <| ys <| ysr <| yp 4 [] (.l (hB14.c 6) .z) <| ye <| x_block <| ykeep [1, 6, 7, 8] (f' := [(1, pX b11), (6, .slice pa pn pc), (7, iX ((pn : Nat) : Int)), (8, iX 0)]) <| x_loop (σ := Nat) (fun k => [(1, pX b11), (6, .slice pa pn pc), (7, iX ((pn : Nat) : Int)), (8, iX ((k : Nat) : Int))]) (fun k u => k ≤ pn ∧ (∀ i : Nat, i < k → 0 ≤ p.params.getD i 0 ∧ p.params.getD i 0 ≤ 9999) ∧ Ch (fun _ => False) w10 u) (fun k => pn - k) 0 rfl ?_ ?_
 ·exact ⟨Nat.zero_le _, fun i hi => absurd hi (Nat.not_lt_zero i), Ch.refl _ _⟩
 intro k w19 hI20 K21 hL22
 obtain ⟨hk, hall, hc23⟩ := hI20
 have hu24 := Up.step hu17 hc23 iZ
 have hr25 := Rd.ch hr18 hc23 iZ
 have hB26 := hB14.ch hc23 id
 refine ysr <| yp 1 [] .z <| ye <| ys <| yc (rL ((k : Nat) : Int) ((pn : Nat) : Int)) (fun hC27 => ?_) fun hC27 => ?_
 ·obtain ⟨pb, po, rfl⟩ := hz.resolve_left (by omega)
  have hf28 := hC27
  refine yk <| ys <| x_block <| ysr <| yp 3 [] (.i ((k : Nat) : Int) (pn) (.l (o := (po + (((k : Nat) : Int)).toNat * 1)) (ints_cell64 hr25 (by omega)) .z)) <| ye <| ysr <| yp 3 [] .z <| yw [14] (rL (p.params.getD k 0) 0) (fun hC29 => ?_) fun hC29 => ?_
  ·have hf30 := hC29
   refine yp 6 [] .z <| ye <| yct <| ysr <| yp 1 [] .z <| ye <| x_ret (rB (rS (then_ret (rB (rS (yR1 (.bool false) ?_))))))
   exact ⟨congrArg Ending.returned (congrArg Value.bool (numsB_at (l := p.params) (k := k) (by omega) (by omega))), Up.ch hu24⟩
  have hf31 := hC29
  refine yp 6 [] .z <| ye <| yc (rL 9999 (p.params.getD k 0)) (fun hC32 => ?_) fun hC32 => ?_
  ·have hf33 := hC32
   refine ysr <| yp 1 [] .z <| ye <| x_ret (rB (rS (then_ret (rB (rS (yR1 (.bool false) ?_))))))
   exact ⟨congrArg Ending.returned (congrArg Value.bool (numsB_at (l := p.params) (k := k) (by omega) (by omega))), Up.ch hu24⟩
  have hf34 := hC32
  refine x_skip (nB (nS ?_))
  refine x_region <| yp 2 [] (.q6 (((k : Nat) : Int) + 1) .z) <| yE (fun a ha => hL22 (k + 1) _ ⟨by omega, fun i hi => (Nat.lt_or_ge i k).elim (hall i) (fun h => by rw [show i = k by omega]; omega), hc23⟩ (by show pn - (k + 1) < pn - k; omega) a (ha.kp [1, 6, 7, 8]))
 have hf35 := hC27
 refine x_exit (eS (then_exit (block_exit (nS ?_))))
 refine ysr <| yp 5 [] (.l (hB26.c 6) .z) <| ye <| x_ret (yR1 (.bool (decide (((pn : Nat) : Int) ≤ 8))) ?_)
 exact ⟨congrArg Ending.returned (congrArg Value.bool (by rw [← numsB_t (fun i hi => hall i (by omega)), hl])), Up.ch hu24⟩
set_option maxHeartbeats 4000000 in
theorem urightE_0 (x0 : Int) (x1 : Int) (x2 : Int) (w : World) (hU : UTabs w) (hB : ∀ x ∈ ([x0, x1, x2] : List Int), 0 ≤ x ∧ x ≤ 255) : Calls Tryd.prog 19 [.agg #[uX x0, uX x1, uX x2, iX 0]].toArray w fun e w' => e = .returned (.bool (utB ⟨x0, x1, x2, 0⟩)) ∧ Ch (fun _ => False) w w' := by
 refine yA Tryd.func19 rfl <| ysr <| yo (yN [uX x0, uX x1, uX x2, iX 0] 38 fun w10 b11 hb12 hz13 hB14 hc15 => ?_)
 have hlo16 : w.heap.size ≤ b11 := by rw [hb12]; exact Ch.size (Up.refl w.heap.size w)
 have hu17 := Up.step (Up.refl w.heap.size w) hc15 iZ
 refine yp 2 [] .z <| ye <| ys <| ysr <| yp 8 [] (.l (hB14.c 3) (.l (hB14.c 3) .z)) <| ye <| ycf <| yk <| ys <| ysr <| yp 6 [3] (.l (hB14.c 3) (.j 0 (3) (.p (q := 0 < 3) (by omega) .z))) <| ye <| x_block <| yU 4 (yU1 ?_)
 refine ysr <| yp 1 [] .z <| ye <| ys <| yct <| yk <| ys <| x_block <| ysr <| yp 3 [] (.i 0 (3) (.l (hB14.c 0) .z)) <| ye <| ysr <| yp 2 [] .z <| ye <| yc (rI x0 0) (fun hC19 => ?_) fun hC19 => ?_
 ·have hf20 := hC19
  refine ysr <| yp 1 [] .z <| ye <| x_ret (rB (rS (then_ret (rB (rS (yR1 (.bool false) ?_))))))
  refine ⟨congrArg Ending.returned (congrArg Value.bool ?_), Up.ch hu17⟩
  unfold utB US.pend
  simp [hf20]
 have hf21 := hC19
 refine x_skip (nB (nS ?_))
 refine x_region <| yp 2 [] (.q6 1 .z) <| yE (nU (yU1 ?_))
 refine ysr <| yp 1 [] .z <| ye <| ys <| yct <| yk <| ys <| x_block <| ysr <| yp 3 [] (.i 1 (3) (.l (hB14.c 1) .z)) <| ye <| ysr <| yp 2 [] .z <| ye <| yc (rI x1 0) (fun hC22 => ?_) fun hC22 => ?_
 ·have hf23 := hC22
  refine ysr <| yp 1 [] .z <| ye <| x_ret (rB (rS (then_ret (rB (rS (yR1 (.bool false) ?_))))))
  refine ⟨congrArg Ending.returned (congrArg Value.bool ?_), Up.ch hu17⟩
  unfold utB US.pend
  simp [hf21, hf23]
 have hf24 := hC22
 refine x_skip (nB (nS ?_))
 refine x_region <| yp 2 [] (.q6 2 .z) <| yE (nU (yU1 ?_))
 refine ysr <| yp 1 [] .z <| ye <| ys <| yct <| yk <| ys <| x_block <| ysr <| yp 3 [] (.i 2 (3) (.l (hB14.c 2) .z)) <| ye <| ysr <| yp 2 [] .z <| ye <| yc (rI x2 0) (fun hC25 => ?_) fun hC25 => ?_
 ·have hf26 := hC25
  refine ysr <| yp 1 [] .z <| ye <| x_ret (rB (rS (then_ret (rB (rS (yR1 (.bool false) ?_))))))
  refine ⟨congrArg Ending.returned (congrArg Value.bool ?_), Up.ch hu17⟩
  unfold utB US.pend
  simp [hf21, hf24, hf26]
 have hf27 := hC25
 refine x_skip (nB (nS ?_))
 refine x_region <| yp 2 [] (.q6 3 .z) <| yE (nU (yU1 ?_))
 refine ysr <| yp 1 [] .z <| ye <| ys <| ycf <| x_exit (eS (then_exit (block_exit (nS ?_))))
 refine ysr <| yp 12 [] (.l (hB14.c 3) .z) <| ye <| x_ret (yR1 (.bool true) ?_)
 refine ⟨congrArg Ending.returned (congrArg Value.bool ?_), Up.ch hu17⟩
 unfold utB US.pend
 simp [hf21, hf24, hf27]
set_option maxHeartbeats 4000000 in
theorem urightE_1 (x0 : Int) (x1 : Int) (x2 : Int) (w : World) (hU : UTabs w) (hB : ∀ x ∈ ([x0, x1, x2] : List Int), 0 ≤ x ∧ x ≤ 255) : Calls Tryd.prog 19 [.agg #[uX x0, uX x1, uX x2, iX 1]].toArray w fun e w' => e = .returned (.bool (utB ⟨x0, x1, x2, 1⟩)) ∧ Ch (fun _ => False) w w' := by
 refine yA Tryd.func19 rfl <| ysr <| yo (yN [uX x0, uX x1, uX x2, iX 1] 38 fun w10 b11 hb12 hz13 hB14 hc15 => ?_)
 have hlo16 : w.heap.size ≤ b11 := by rw [hb12]; exact Ch.size (Up.refl w.heap.size w)
 have hu17 := Up.step (Up.refl w.heap.size w) hc15 iZ
 have hU18 := utabs_ch hc15 hU id id
 refine yp 2 [] .z <| ye <| ys <| ysr <| yp 8 [] (.l (hB14.c 3) (.l (hB14.c 3) .z)) <| ye <| ycf <| yk <| ys <| ysr <| yp 6 [3] (.l (hB14.c 3) (.j 1 (3) (.p (q := 1 < 3) (by omega) .z))) <| ye <| x_block <| yU 3 (yU1 ?_)
 refine ysr <| yp 1 [] .z <| ye <| ys <| yct <| yk <| ys <| x_block <| ysr <| yp 3 [] (.i 0 (2) (.l (hB14.c 1) .z)) <| ye <| ysr <| yp 2 [] .z <| ye <| yc (rI x1 0) (fun hC19 => ?_) fun hC19 => ?_
 ·have hf20 := hC19
  refine ysr <| yp 1 [] .z <| ye <| x_ret (rB (rS (then_ret (rB (rS (yR1 (.bool false) ?_))))))
  refine ⟨congrArg Ending.returned (congrArg Value.bool ?_), Up.ch hu17⟩
  unfold utB US.pend
  simp [hf20]
 have hf21 := hC19
 refine x_skip (nB (nS ?_))
 refine x_region <| yp 2 [] (.q6 1 .z) <| yE (nU (yU1 ?_))
 refine ysr <| yp 1 [] .z <| ye <| ys <| yct <| yk <| ys <| x_block <| ysr <| yp 3 [] (.i 1 (2) (.l (hB14.c 2) .z)) <| ye <| ysr <| yp 2 [] .z <| ye <| yc (rI x2 0) (fun hC22 => ?_) fun hC22 => ?_
 ·have hf23 := hC22
  refine ysr <| yp 1 [] .z <| ye <| x_ret (rB (rS (then_ret (rB (rS (yR1 (.bool false) ?_))))))
  refine ⟨congrArg Ending.returned (congrArg Value.bool ?_), Up.ch hu17⟩
  unfold utB US.pend
  simp [hf21, hf23]
 have hf24 := hC22
 refine x_skip (nB (nS ?_))
 refine x_region <| yp 2 [] (.q6 2 .z) <| yE (nU (yU1 ?_))
 refine ysr <| yp 1 [] .z <| ye <| ys <| ycf <| x_exit (eS (then_exit (block_exit (nS ?_))))
 refine ysr <| yp 8 [] (.l (hB14.c 3) (.l (hB14.c 3) (.j 1 (3) .z))) <| yo (yQ (fullrune_any b11 0 3 [x0] hU18 (Rd.pre (ys := [x0].map (Value.int .u8)) (r := [uX x1, uX x2, iX 1]) hB14) hB14.lt (fun x hx => hB x (by simp only [List.mem_cons, List.not_mem_nil, or_false] at hx ⊢; first | exact hx | (rcases hx with hx | hx; exact .inl hx; exact .inr (.inl hx)) | exact .inl hx)) (of_ble rfl)) fun w26 hc25 => ?_)
 have hu27 := Up.step hu17 hc25 iZ
 refine yp 12 [] .z <| ye <| x_ret (yR1 (.bool (!(fullB [x0]))) ?_)
 refine ⟨congrArg Ending.returned (congrArg Value.bool ?_), Up.ch hu27⟩
 unfold utB US.pend
 simp [hf21, hf24]
set_option maxHeartbeats 4000000 in
theorem urightE_2 (x0 : Int) (x1 : Int) (x2 : Int) (w : World) (hU : UTabs w) (hB : ∀ x ∈ ([x0, x1, x2] : List Int), 0 ≤ x ∧ x ≤ 255) : Calls Tryd.prog 19 [.agg #[uX x0, uX x1, uX x2, iX 2]].toArray w fun e w' => e = .returned (.bool (utB ⟨x0, x1, x2, 2⟩)) ∧ Ch (fun _ => False) w w' := by
 refine yA Tryd.func19 rfl <| ysr <| yo (yN [uX x0, uX x1, uX x2, iX 2] 38 fun w10 b11 hb12 hz13 hB14 hc15 => ?_)
 have hlo16 : w.heap.size ≤ b11 := by rw [hb12]; exact Ch.size (Up.refl w.heap.size w)
 have hu17 := Up.step (Up.refl w.heap.size w) hc15 iZ
 have hU18 := utabs_ch hc15 hU id id
 refine yp 2 [] .z <| ye <| ys <| ysr <| yp 8 [] (.l (hB14.c 3) (.l (hB14.c 3) .z)) <| ye <| ycf <| yk <| ys <| ysr <| yp 6 [3] (.l (hB14.c 3) (.j 2 (3) (.p (q := 2 < 3) (by omega) .z))) <| ye <| x_block <| yU 2 (yU1 ?_)
 refine ysr <| yp 1 [] .z <| ye <| ys <| yct <| yk <| ys <| x_block <| ysr <| yp 3 [] (.i 0 (1) (.l (hB14.c 2) .z)) <| ye <| ysr <| yp 2 [] .z <| ye <| yc (rI x2 0) (fun hC19 => ?_) fun hC19 => ?_
 ·have hf20 := hC19
  refine ysr <| yp 1 [] .z <| ye <| x_ret (rB (rS (then_ret (rB (rS (yR1 (.bool false) ?_))))))
  refine ⟨congrArg Ending.returned (congrArg Value.bool ?_), Up.ch hu17⟩
  unfold utB US.pend
  simp [hf20]
 have hf21 := hC19
 refine x_skip (nB (nS ?_))
 refine x_region <| yp 2 [] (.q6 1 .z) <| yE (nU (yU1 ?_))
 refine ysr <| yp 1 [] .z <| ye <| ys <| ycf <| x_exit (eS (then_exit (block_exit (nS ?_))))
 refine ysr <| yp 8 [] (.l (hB14.c 3) (.l (hB14.c 3) (.j 2 (3) .z))) <| yo (yQ (fullrune_any b11 0 3 [x0, x1] hU18 (Rd.pre (ys := [x0, x1].map (Value.int .u8)) (r := [uX x2, iX 2]) hB14) hB14.lt (fun x hx => hB x (by simp only [List.mem_cons, List.not_mem_nil, or_false] at hx ⊢; first | exact hx | (rcases hx with hx | hx; exact .inl hx; exact .inr (.inl hx)) | exact .inl hx)) (of_ble rfl)) fun w23 hc22 => ?_)
 have hu24 := Up.step hu17 hc22 iZ
 refine yp 12 [] .z <| ye <| x_ret (yR1 (.bool (!(fullB [x0, x1]))) ?_)
 refine ⟨congrArg Ending.returned (congrArg Value.bool ?_), Up.ch hu24⟩
 unfold utB US.pend
 simp [hf21]
set_option maxHeartbeats 4000000 in
theorem urightE_3 (x0 : Int) (x1 : Int) (x2 : Int) (w : World) (hU : UTabs w) (hB : ∀ x ∈ ([x0, x1, x2] : List Int), 0 ≤ x ∧ x ≤ 255) : Calls Tryd.prog 19 [.agg #[uX x0, uX x1, uX x2, iX 3]].toArray w fun e w' => e = .returned (.bool (utB ⟨x0, x1, x2, 3⟩)) ∧ Ch (fun _ => False) w w' := by
 refine yA Tryd.func19 rfl <| ysr <| yo (yN [uX x0, uX x1, uX x2, iX 3] 38 fun w10 b11 hb12 hz13 hB14 hc15 => ?_)
 have hlo16 : w.heap.size ≤ b11 := by rw [hb12]; exact Ch.size (Up.refl w.heap.size w)
 have hu17 := Up.step (Up.refl w.heap.size w) hc15 iZ
 have hU18 := utabs_ch hc15 hU id id
 refine yp 2 [] .z <| ye <| ys <| ysr <| yp 8 [] (.l (hB14.c 3) (.l (hB14.c 3) .z)) <| ye <| ycf <| yk <| ys <| ysr <| yp 6 [] (.l (hB14.c 3) (.j 3 (3) .z)) <| ye <| x_block <| yU 1 (yU1 ?_)
 refine ysr <| yp 1 [] .z <| ye <| ys <| ycf <| x_exit (eS (then_exit (block_exit (nS ?_))))
 refine ysr <| yp 8 [] (.l (hB14.c 3) (.l (hB14.c 3) (.j 3 (3) .z))) <| yo (yQ (fullrune_any b11 0 3 [x0, x1, x2] hU18 (Rd.pre (ys := [x0, x1, x2].map (Value.int .u8)) (r := [iX 3]) hB14) hB14.lt (fun x hx => hB x (by simp only [List.mem_cons, List.not_mem_nil, or_false] at hx ⊢; first | exact hx | (rcases hx with hx | hx; exact .inl hx; exact .inr (.inl hx)) | exact .inl hx)) (of_ble rfl)) fun w20 hc19 => ?_)
 have hu21 := Up.step hu17 hc19 iZ
 refine yp 12 [] .z <| ye <| x_ret (yR1 (.bool (!(fullB [x0, x1, x2]))) ?_)
 refine ⟨congrArg Ending.returned (congrArg Value.bool ?_), Up.ch hu21⟩
 unfold utB US.pend
 simp [true_and]
theorem utB_bad {u : US} (h : u.n < 0 ∨ 3 < u.n) : false = utB u := by
 unfold utB
 rcases h with h | h
 ·rw [decide_eq_false (show ¬ 0 ≤ u.n by omega)]; rfl
 rw [decide_eq_false (show ¬ u.n ≤ 3 by omega), Bool.and_false]; rfl
set_option maxHeartbeats 4000000 in
theorem urightE_b (u : US) (w : World) (hn : u.n < 0 ∨ 3 < u.n) : Calls Tryd.prog 19 [.agg #[uX u.b0, uX u.b1, uX u.b2, iX u.n]].toArray w fun e w' => e = .returned (.bool (utB u)) ∧ Ch (fun _ => False) w w' := by
 refine yA Tryd.func19 rfl <| ysr <| yo (yN [uX u.b0, uX u.b1, uX u.b2, iX u.n] 38 fun w10 b11 hb12 hz13 hB14 hc15 => ?_)
 have hlo16 : w.heap.size ≤ b11 := by rw [hb12]; exact Ch.size (Up.refl w.heap.size w)
 have hu17 := Up.step (Up.refl w.heap.size w) hc15 iZ
 refine yp 2 [] .z <| ye <| ys <| ysr <| yp 4 [] (.l (hB14.c 3) .z) <| yw [8] (rL u.n 0) (fun hC18 => ?_) fun hC18 => ?_
 ·have hf19 := hC18
  refine yp 8 [] .z <| ye <| yct <| ysr <| yp 1 [] .z <| ye <| x_ret (rS (yR1 (.bool false) ?_))
  exact ⟨congrArg Ending.returned (congrArg Value.bool (utB_bad hn)), Up.ch hu17⟩
 have hf20 := hC18
 refine yp 8 [] (.l (hB14.c 3) .z) <| ye <| yc (rL 3 u.n) (fun hC21 => ?_) fun hC21 => ?_
 ·have hf22 := hC21
  refine ysr <| yp 1 [] .z <| ye <| x_ret (rS (yR1 (.bool false) ?_))
  exact ⟨congrArg Ending.returned (congrArg Value.bool (utB_bad hn)), Up.ch hu17⟩
 have hf23 := hC21
 exfalso; omega
theorem urightE (u : US) (w : World) (hU : UTabs w) (ho : u.ok) : Calls Tryd.prog 19 [.agg #[uX u.b0, uX u.b1, uX u.b2, iX u.n]].toArray w fun e w' => e = .returned (.bool (utB u)) ∧ Ch (fun _ => False) w w' := by
 obtain ⟨a, b, c, n⟩ := u
 obtain ⟨o0, o1, o2, o3⟩ := ho
 dsimp only at *
 have hB : ∀ x ∈ ([a, b, c] : List Int), 0 ≤ x ∧ x ≤ 255 := fun x hx => by
  simp only [List.mem_cons, List.not_mem_nil, or_false] at hx
  rcases hx with rfl | rfl | rfl <;> assumption
 by_cases hn : n < 0 ∨ 3 < n
 ·exact urightE_b ⟨a, b, c, n⟩ w hn
 have hn : n = 0 ∨ n = 1 ∨ n = 2 ∨ n = 3 := by omega
 rcases hn with rfl | rfl | rfl | rfl
 ·exact urightE_0 a b c w hU hB
 ·exact urightE_1 a b c w hU hB
 ·exact urightE_2 a b c w hU hB
 exact urightE_3 a b c w hU hB
set_option maxHeartbeats 4000000 in
theorem rightE (p : PS) (pa : Option Addr) (pn pc : Nat) (w : World) (hU : UTabs w) (ho : p.utf.ok) (hr : Rd w pa (p.params.map (Value.int .i64))) (hl : p.params.length = pn) (hz : pn = 0 ∨ ∃ b o, pa = some ⟨b, o, none⟩) (hn : pn ≤ 8) (htz : p.text.size ≤ 1000) : Calls Tryd.prog 6 [.agg #[iX p.state, uX p.utf.b0, uX p.utf.b1, uX p.utf.b2, iX p.utf.n, .string p.marks, .slice pa pn pc, .string p.text, iX p.within]].toArray w fun e w' => e = .returned (.bool (prightB p)) ∧ Ch (fun _ => False) w w' := by
 refine yA Tryd.func6 rfl <| ysr <| yo (yN [iX p.state, uX p.utf.b0, uX p.utf.b1, uX p.utf.b2, iX p.utf.n, .string p.marks, .slice pa pn pc, .string p.text, iX p.within] 41 fun w10 b11 hb12 hz13 hB14 hc15 => ?_)
 have hlo16 : w.heap.size ≤ b11 := by rw [hb12]; exact Ch.size (Up.refl w.heap.size w)
 have hu17 := Up.step (Up.refl w.heap.size w) hc15 iZ
 have hU18 := utabs_ch hc15 hU id id
 have hr19 := Rd.ch hr hc15 iZ
 refine yp 2 [] .z <| ye <| ysr <| yp 5 [] (.a (hB14.cs 1 4) .z) <| ye <| ysr <| yp 4 [] (.l (hB14.c 5) .z) <| yw [12] (rY ((p.marks).toList == (ByteArray.empty).toList)) (fun hC20 => ?_) fun hC20 => ?_
 ·have hf21 : zb p.marks = true := hC20
  refine yp 10 [] (.l (hB14.c 6) .z) <| ye <| ys <| ysr <| yp 4 [] (.l (hB14.c 0) .z) <| yw [21] (rI p.state 7) (fun hC22 => ?_) fun hC22 => ?_
  ·have hf23 := hC22
   refine yp 9 [] (.l (hB14.c 8) .z) <| yw [26] (rI p.within 0) (fun hC24 => ?_) fun hC24 => ?_
   ·have hf25 := hC24
    refine yp 17 [] .z <| ye <| yct <| ysr <| yp 1 [] .z <| ye <| x_ret (rS (yR1 (.bool false) ?_))
    refine ⟨congrArg Ending.returned (congrArg Value.bool ?_), Up.ch hu17⟩
    unfold prightB unmB
    try rw [show (p.text.toList == ByteArray.empty.toList) = zb p.text from rfl]
    simp [hf21, hf23, hf25]
   have hf26 := hC24
   refine yp 13 [] (.l (hB14.c 0) .z) <| yw [30] (rI p.state 0) (fun hC27 => ?_) fun hC27 => ?_
   ·have hf28 := hC27
    refine yp 17 [] .z <| ye <| yc (rN (rY ((((p.utf.b0 : Int) == 0) && (((p.utf.b1 : Int) == 0) && (((p.utf.b2 : Int) == 0) && true))) && (((p.utf.n : Int) == 0) && true)))) (fun hC29 => ?_) fun hC29 => ?_
    ·have hf30 : bareB p.utf = false := by rw [← hC29]; unfold bareB; simp [Bool.and_assoc]
     refine ysr <| yp 1 [] .z <| ye <| x_ret (rS (yR1 (.bool false) ?_))
     refine ⟨congrArg Ending.returned (congrArg Value.bool ?_), Up.ch hu17⟩
     unfold prightB unmB
     try rw [show (p.text.toList == ByteArray.empty.toList) = zb p.text from rfl]
     simp [hf21, hf23, hf26, hf28, hf30]
    have hf31 : bareB p.utf = true := by rw [← hC29]; unfold bareB; simp [Bool.and_assoc]
    refine yk <| ys <| ysr <| yp 2 [] (.l (hB14.c 0) .z) <| ye <| x_block <| ys <| x_block <| ys <| x_block <| ys <| x_block <| ys <| x_block <| ys <| x_block <| ys <| x_block <| ys <| ys <| ysr <| yp 2 [] .z <| ye <| yc (rE p.state 0) (fun hC32 => ?_) fun hC32 => ?_
    ·have hf33 := hC32
     exfalso; omega
    have hf34 := hC32
    refine yk <| ys <| ysr <| yp 2 [] .z <| ye <| yc (rE p.state 1) (fun hC35 => ?_) fun hC35 => ?_
    ·have hf36 := hC35
     refine x_exit (eS (eS (eB (eS (block_exit (nS ?_))))))
     refine ys <| ysr <| yp 2 [] .z <| yw [63] (rE ((pn : Nat) : Int) 0) (fun hC37 => ?_) fun hC37 => ?_
     ·have hf38 : (p.params.length == 0) = true := by rw [hl]; first | (rw [beq_iff_eq]; omega) | (rw [beq_eq_false_iff_ne]; omega)
      refine yp 7 [] (.l (hB14.c 7) .z) <| ye <| x_ret (rS (rB (rS (rB (rS (rB (rS (rB (rS (rB (rS (yR1 (.bool ((p.text).toList == (ByteArray.empty).toList)) ?_))))))))))))
      refine ⟨congrArg Ending.returned (congrArg Value.bool ?_), Up.ch hu17⟩
      unfold prightB unmB
      try rw [show (p.text.toList == ByteArray.empty.toList) = zb p.text from rfl]
      simp [hf21, hf23, hf26, hf28, hf31, hf34, hf36, hf38]
     have hf39 : (p.params.length == 0) = false := by rw [hl]; first | (rw [beq_iff_eq]; omega) | (rw [beq_eq_false_iff_ne]; omega)
     refine yp 7 [] .z <| ye <| x_ret (rS (rB (rS (rB (rS (rB (rS (rB (rS (rB (rS (yR1 (.bool false) ?_))))))))))))
     refine ⟨congrArg Ending.returned (congrArg Value.bool ?_), Up.ch hu17⟩
     unfold prightB unmB
     try rw [show (p.text.toList == ByteArray.empty.toList) = zb p.text from rfl]
     simp [hf21, hf23, hf26, hf28, hf31, hf34, hf36, hf39]
    have hf40 := hC35
    refine yk <| ys <| ysr <| yp 2 [] .z <| ye <| yc (rE p.state 2) (fun hC41 => ?_) fun hC41 => ?_
    ·have hf42 := hC41
     refine x_exit (eS (eS (eB (eS (eB (eS (block_exit (nS ?_))))))))
     refine ys <| ysr <| yp 1 [] (.a (hB14.cs 0 9) .z) <| yo (yQ (marksE_low p pa pn pc _) fun w44 hc43 => ?_)
     have hu45 := Up.step hu17 hc43 iZ
     have hB48 := hB14.ch hc43 id
     refine yp 3 [] .z <| yw [70] (rY (marksB 1 lowB p.marks)) (fun hC49 => ?_) fun hC49 => ?_
     ·have hf50 := hC49
      refine yp 9 [] (.l (hB48.c 6) .z) <| yw [76] (rE ((pn : Nat) : Int) 0) (fun hC51 => ?_) fun hC51 => ?_
      ·have hf52 : (p.params.length == 0) = true := by rw [hl]; first | (rw [beq_iff_eq]; omega) | (rw [beq_eq_false_iff_ne]; omega)
       refine yp 14 [] (.l (hB48.c 7) .z) <| ye <| x_ret (rS (rB (rS (rB (rS (rB (rS (rB (rS (yR1 (.bool ((p.text).toList == (ByteArray.empty).toList)) ?_))))))))))
       refine ⟨congrArg Ending.returned (congrArg Value.bool ?_), Up.ch hu45⟩
       unfold prightB unmB
       try rw [show (p.text.toList == ByteArray.empty.toList) = zb p.text from rfl]
       simp [hf21, hf23, hf26, hf28, hf31, hf34, hf40, hf42, hf50, hf52]
      have hf53 : (p.params.length == 0) = false := by rw [hl]; first | (rw [beq_iff_eq]; omega) | (rw [beq_eq_false_iff_ne]; omega)
      refine yp 14 [] .z <| ye <| x_ret (rS (rB (rS (rB (rS (rB (rS (rB (rS (yR1 (.bool false) ?_))))))))))
      refine ⟨congrArg Ending.returned (congrArg Value.bool ?_), Up.ch hu45⟩
      unfold prightB unmB
      try rw [show (p.text.toList == ByteArray.empty.toList) = zb p.text from rfl]
      simp [hf21, hf23, hf26, hf28, hf31, hf34, hf40, hf42, hf50, hf53]
     have hf54 := hC49
     refine yp 14 [] .z <| ye <| x_ret (rS (rB (rS (rB (rS (rB (rS (rB (rS (yR1 (.bool false) ?_))))))))))
     refine ⟨congrArg Ending.returned (congrArg Value.bool ?_), Up.ch hu45⟩
     unfold prightB unmB
     try rw [show (p.text.toList == ByteArray.empty.toList) = zb p.text from rfl]
     simp [hf21, hf23, hf26, hf28, hf31, hf34, hf40, hf42, hf54]
    have hf55 := hC41
    refine yk <| ys <| ys <| ysr <| yp 2 [] .z <| ye <| yc (rE p.state 3) (fun hC56 => ?_) fun hC56 => ?_
    ·have hf57 := hC56
     refine yk <| yc (rE p.state 3) (fun hC58 => ?_) fun hC58 => ?_
     ·have hf59 := hC58
      refine x_exit (eS (eS (eB (eS (eB (eS (eB (eS (block_exit (nS ?_))))))))))
      refine ys <| ysr <| yp 1 [] (.a (hB14.cs 0 9) .z) <| yo (yQ (marksE_wide p pa pn pc _) fun w61 hc60 => ?_)
      have hu62 := Up.step hu17 hc60 iZ
      have hr64 := Rd.ch hr19 hc60 iZ
      have hB65 := hB14.ch hc60 id
      refine yp 3 [] .z <| yw [83] (rY (marksB 0 wideMB p.marks)) (fun hC66 => ?_) fun hC66 => ?_
      ·have hf67 := hC66
       refine yp 4 [] (.a (hB65.cs 0 9) .z) <| yo (yQ (numbersE p pa pn pc _ hr64 hl hz hn) fun w69 hc68 => ?_)
       have hu70 := Up.step hu62 hc68 iZ
       have hB73 := hB65.ch hc68 id
       refine yp 7 [] .z <| yw [87] (rY (numsB p.params)) (fun hC74 => ?_) fun hC74 => ?_
       ·have hf75 := hC74
        refine yp 12 [] (.l (hB73.c 7) .z) <| ye <| x_ret (rS (rB (rS (rB (rS (rB (rS (yR1 (.bool ((p.text).toList == (ByteArray.empty).toList)) ?_))))))))
        refine ⟨congrArg Ending.returned (congrArg Value.bool ?_), Up.ch hu70⟩
        unfold prightB unmB
        try rw [show (p.text.toList == ByteArray.empty.toList) = zb p.text from rfl]
        simp [hf21, hf23, hf26, hf28, hf31, hf34, hf40, hf55, hf57, hf59, hf67, hf75]
       have hf76 := hC74
       refine yp 12 [] .z <| ye <| x_ret (rS (rB (rS (rB (rS (rB (rS (yR1 (.bool false) ?_))))))))
       refine ⟨congrArg Ending.returned (congrArg Value.bool ?_), Up.ch hu70⟩
       unfold prightB unmB
       try rw [show (p.text.toList == ByteArray.empty.toList) = zb p.text from rfl]
       simp [hf21, hf23, hf26, hf28, hf31, hf34, hf40, hf55, hf57, hf59, hf67, hf76]
      have hf77 := hC66
      refine yp 12 [] .z <| ye <| x_ret (rS (rB (rS (rB (rS (rB (rS (yR1 (.bool false) ?_))))))))
      refine ⟨congrArg Ending.returned (congrArg Value.bool ?_), Up.ch hu62⟩
      unfold prightB unmB
      try rw [show (p.text.toList == ByteArray.empty.toList) = zb p.text from rfl]
      simp [hf21, hf23, hf26, hf28, hf31, hf34, hf40, hf55, hf57, hf59, hf77]
     have hf78 := hC58
     exfalso; omega
    have hf79 := hC56
    refine x_region <| yp 2 [] .z <| ye <| yc (rE p.state 4) (fun hC80 => ?_) fun hC80 => ?_
    ·have hf81 := hC80
     refine x_exit (eS (eS (eB (eS (eB (eS (eB (eS (block_exit (nS ?_))))))))))
     refine ys <| ysr <| yp 1 [] (.a (hB14.cs 0 9) .z) <| yo (yQ (marksE_wide p pa pn pc _) fun w83 hc82 => ?_)
     have hu84 := Up.step hu17 hc82 iZ
     have hr86 := Rd.ch hr19 hc82 iZ
     have hB87 := hB14.ch hc82 id
     refine yp 3 [] .z <| yw [83] (rY (marksB 0 wideMB p.marks)) (fun hC88 => ?_) fun hC88 => ?_
     ·have hf89 := hC88
      refine yp 4 [] (.a (hB87.cs 0 9) .z) <| yo (yQ (numbersE p pa pn pc _ hr86 hl hz hn) fun w91 hc90 => ?_)
      have hu92 := Up.step hu84 hc90 iZ
      have hB95 := hB87.ch hc90 id
      refine yp 7 [] .z <| yw [87] (rY (numsB p.params)) (fun hC96 => ?_) fun hC96 => ?_
      ·have hf97 := hC96
       refine yp 12 [] (.l (hB95.c 7) .z) <| ye <| x_ret (rS (rB (rS (rB (rS (rB (rS (yR1 (.bool ((p.text).toList == (ByteArray.empty).toList)) ?_))))))))
       refine ⟨congrArg Ending.returned (congrArg Value.bool ?_), Up.ch hu92⟩
       unfold prightB unmB
       try rw [show (p.text.toList == ByteArray.empty.toList) = zb p.text from rfl]
       simp [hf21, hf23, hf26, hf28, hf31, hf34, hf40, hf55, hf79, hf81, hf89, hf97]
      have hf98 := hC96
      refine yp 12 [] .z <| ye <| x_ret (rS (rB (rS (rB (rS (rB (rS (yR1 (.bool false) ?_))))))))
      refine ⟨congrArg Ending.returned (congrArg Value.bool ?_), Up.ch hu92⟩
      unfold prightB unmB
      try rw [show (p.text.toList == ByteArray.empty.toList) = zb p.text from rfl]
      simp [hf21, hf23, hf26, hf28, hf31, hf34, hf40, hf55, hf79, hf81, hf89, hf98]
     have hf99 := hC88
     refine yp 12 [] .z <| ye <| x_ret (rS (rB (rS (rB (rS (rB (rS (yR1 (.bool false) ?_))))))))
     refine ⟨congrArg Ending.returned (congrArg Value.bool ?_), Up.ch hu84⟩
     unfold prightB unmB
     try rw [show (p.text.toList == ByteArray.empty.toList) = zb p.text from rfl]
     simp [hf21, hf23, hf26, hf28, hf31, hf34, hf40, hf55, hf79, hf81, hf99]
    have hf100 := hC80
    refine yk <| ys <| ysr <| yp 2 [] .z <| ye <| yc (rE p.state 7) (fun hC101 => ?_) fun hC101 => ?_
    ·have hf102 := hC101
     exfalso; omega
    have hf103 := hC101
    refine yk <| ys <| ysr <| yp 2 [] .z <| ye <| yc (rE p.state 5) (fun hC104 => ?_) fun hC104 => ?_
    ·have hf105 := hC104
     refine yk <| yc (rE p.state 5) (fun hC106 => ?_) fun hC106 => ?_
     ·have hf107 := hC106
      refine x_exit (eS (eB (eS (eB (eS (eB (eS (eB (eS (eB (eS (block_exit (nS ?_)))))))))))))
      refine ys <| ysr <| yp 2 [] .z <| yw [101] (rE ((pn : Nat) : Int) 0) (fun hC108 => ?_) fun hC108 => ?_
      ·have hf109 : (p.params.length == 0) = true := by rw [hl]; first | (rw [beq_iff_eq]; omega) | (rw [beq_eq_false_iff_ne]; omega)
       refine yp 3 [] (.a (hB14.cs 0 9) .z) <| yo (yQ (ptextE p pa pn pc _ htz) fun w111 hc110 => ?_)
       have hu112 := Up.step hu17 hc110 iZ
       refine yp 6 [] .z <| ye <| x_ret (rS (rB (rS (yR1 (.bool (textB p.text)) ?_))))
       refine ⟨congrArg Ending.returned (congrArg Value.bool ?_), Up.ch hu112⟩
       unfold prightB unmB
       try rw [show (p.text.toList == ByteArray.empty.toList) = zb p.text from rfl]
       simp [hf21, hf23, hf26, hf28, hf31, hf34, hf40, hf55, hf79, hf100, hf103, hf105, hf107, hf109]
      have hf116 : (p.params.length == 0) = false := by rw [hl]; first | (rw [beq_iff_eq]; omega) | (rw [beq_eq_false_iff_ne]; omega)
      refine yp 6 [] .z <| ye <| x_ret (rS (rB (rS (yR1 (.bool false) ?_))))
      refine ⟨congrArg Ending.returned (congrArg Value.bool ?_), Up.ch hu17⟩
      unfold prightB unmB
      try rw [show (p.text.toList == ByteArray.empty.toList) = zb p.text from rfl]
      simp [hf21, hf23, hf26, hf28, hf31, hf34, hf40, hf55, hf79, hf100, hf103, hf105, hf107, hf116]
     have hf117 := hC106
     exfalso; omega
    have hf118 := hC104
    refine x_region <| yp 2 [] .z <| ye <| yc (rE p.state 6) (fun hC119 => ?_) fun hC119 => ?_
    ·have hf120 := hC119
     refine x_exit (eS (eB (eS (eB (eS (eB (eS (eB (eS (eB (eS (block_exit (nS ?_)))))))))))))
     refine ys <| ysr <| yp 2 [] .z <| yw [101] (rE ((pn : Nat) : Int) 0) (fun hC121 => ?_) fun hC121 => ?_
     ·have hf122 : (p.params.length == 0) = true := by rw [hl]; first | (rw [beq_iff_eq]; omega) | (rw [beq_eq_false_iff_ne]; omega)
      refine yp 3 [] (.a (hB14.cs 0 9) .z) <| yo (yQ (ptextE p pa pn pc _ htz) fun w124 hc123 => ?_)
      have hu125 := Up.step hu17 hc123 iZ
      refine yp 6 [] .z <| ye <| x_ret (rS (rB (rS (yR1 (.bool (textB p.text)) ?_))))
      refine ⟨congrArg Ending.returned (congrArg Value.bool ?_), Up.ch hu125⟩
      unfold prightB unmB
      try rw [show (p.text.toList == ByteArray.empty.toList) = zb p.text from rfl]
      simp [hf21, hf23, hf26, hf28, hf31, hf34, hf40, hf55, hf79, hf100, hf103, hf118, hf120, hf122]
     have hf129 : (p.params.length == 0) = false := by rw [hl]; first | (rw [beq_iff_eq]; omega) | (rw [beq_eq_false_iff_ne]; omega)
     refine yp 6 [] .z <| ye <| x_ret (rS (rB (rS (yR1 (.bool false) ?_))))
     refine ⟨congrArg Ending.returned (congrArg Value.bool ?_), Up.ch hu17⟩
     unfold prightB unmB
     try rw [show (p.text.toList == ByteArray.empty.toList) = zb p.text from rfl]
     simp [hf21, hf23, hf26, hf28, hf31, hf34, hf40, hf55, hf79, hf100, hf103, hf118, hf120, hf129]
    have hf130 := hC119
    refine yk <| x_exit (eB (eS (eB (eS (eB (eS (eB (eS (eB (eS (eB (eS (block_exit (nS ?_))))))))))))))
    refine ysr <| yp 1 [] .z <| ye <| x_ret (yR1 (.bool false) ?_)
    refine ⟨congrArg Ending.returned (congrArg Value.bool ?_), Up.ch hu17⟩
    unfold prightB unmB
    try rw [show (p.text.toList == ByteArray.empty.toList) = zb p.text from rfl]
    simp [hf21, hf23, hf26, hf28, hf31, hf34, hf40, hf55, hf79, hf100, hf103, hf118, hf130]
   have hf131 := hC27
   refine yp 17 [] .z <| ye <| ycf <| yk <| ys <| ysr <| yp 2 [] (.l (hB14.c 0) .z) <| ye <| x_block <| ys <| x_block <| ys <| x_block <| ys <| x_block <| ys <| x_block <| ys <| x_block <| ys <| x_block <| ys <| ys <| ysr <| yp 2 [] .z <| ye <| yc (rE p.state 0) (fun hC132 => ?_) fun hC132 => ?_
   ·have hf133 := hC132
    refine x_exit (eS (eS (block_exit (nS ?_))))
    refine ys <| ysr <| yp 2 [] (.a (hB14.cs 1 4) .z) <| yo (yQ (urightE p.utf _ hU18 ho) fun w135 hc134 => ?_)
    have hu136 := Up.step hu17 hc134 iZ
    have hB139 := hB14.ch hc134 id
    refine yp 4 [] .z <| yw [54] (rY (utB p.utf)) (fun hC140 => ?_) fun hC140 => ?_
    ·have hf141 := hC140
     refine yp 7 [] .z <| yw [57] (rE ((pn : Nat) : Int) 0) (fun hC142 => ?_) fun hC142 => ?_
     ·have hf143 : (p.params.length == 0) = true := by rw [hl]; first | (rw [beq_iff_eq]; omega) | (rw [beq_eq_false_iff_ne]; omega)
      refine yp 12 [] (.l (hB139.c 7) .z) <| ye <| x_ret (rS (rB (rS (rB (rS (rB (rS (rB (rS (rB (rS (rB (rS (yR1 (.bool ((p.text).toList == (ByteArray.empty).toList)) ?_))))))))))))))
      refine ⟨congrArg Ending.returned (congrArg Value.bool ?_), Up.ch hu136⟩
      unfold prightB unmB
      try rw [show (p.text.toList == ByteArray.empty.toList) = zb p.text from rfl]
      simp [hf21, hf23, hf26, hf131, hf133, hf141, hf143]
     have hf144 : (p.params.length == 0) = false := by rw [hl]; first | (rw [beq_iff_eq]; omega) | (rw [beq_eq_false_iff_ne]; omega)
     refine yp 12 [] .z <| ye <| x_ret (rS (rB (rS (rB (rS (rB (rS (rB (rS (rB (rS (rB (rS (yR1 (.bool false) ?_))))))))))))))
     refine ⟨congrArg Ending.returned (congrArg Value.bool ?_), Up.ch hu136⟩
     unfold prightB unmB
     try rw [show (p.text.toList == ByteArray.empty.toList) = zb p.text from rfl]
     simp [hf21, hf23, hf26, hf131, hf133, hf141, hf144]
    have hf145 := hC140
    refine yp 12 [] .z <| ye <| x_ret (rS (rB (rS (rB (rS (rB (rS (rB (rS (rB (rS (rB (rS (yR1 (.bool false) ?_))))))))))))))
    refine ⟨congrArg Ending.returned (congrArg Value.bool ?_), Up.ch hu136⟩
    unfold prightB unmB
    try rw [show (p.text.toList == ByteArray.empty.toList) = zb p.text from rfl]
    simp [hf21, hf23, hf26, hf131, hf133, hf145]
   have hf146 := hC132
   exfalso; omega
  have hf147 := hC22
  refine yp 13 [] (.l (hB14.c 0) .z) <| yw [30] (rI p.state 0) (fun hC148 => ?_) fun hC148 => ?_
  ·have hf149 := hC148
   refine yp 17 [] .z <| ye <| yc (rN (rY ((((p.utf.b0 : Int) == 0) && (((p.utf.b1 : Int) == 0) && (((p.utf.b2 : Int) == 0) && true))) && (((p.utf.n : Int) == 0) && true)))) (fun hC150 => ?_) fun hC150 => ?_
   ·have hf151 : bareB p.utf = false := by rw [← hC150]; unfold bareB; simp [Bool.and_assoc]
    refine ysr <| yp 1 [] .z <| ye <| x_ret (rS (yR1 (.bool false) ?_))
    refine ⟨congrArg Ending.returned (congrArg Value.bool ?_), Up.ch hu17⟩
    unfold prightB unmB
    try rw [show (p.text.toList == ByteArray.empty.toList) = zb p.text from rfl]
    simp [hf21, hf147, hf149, hf151]
   have hf152 : bareB p.utf = true := by rw [← hC150]; unfold bareB; simp [Bool.and_assoc]
   refine yk <| ys <| ysr <| yp 2 [] (.l (hB14.c 0) .z) <| ye <| x_block <| ys <| x_block <| ys <| x_block <| ys <| x_block <| ys <| x_block <| ys <| x_block <| ys <| x_block <| ys <| ys <| ysr <| yp 2 [] .z <| ye <| yc (rE p.state 0) (fun hC153 => ?_) fun hC153 => ?_
   ·have hf154 := hC153
    exfalso; omega
   have hf155 := hC153
   refine yk <| ys <| ysr <| yp 2 [] .z <| ye <| yc (rE p.state 1) (fun hC156 => ?_) fun hC156 => ?_
   ·have hf157 := hC156
    exfalso; omega
   have hf158 := hC156
   refine yk <| ys <| ysr <| yp 2 [] .z <| ye <| yc (rE p.state 2) (fun hC159 => ?_) fun hC159 => ?_
   ·have hf160 := hC159
    exfalso; omega
   have hf161 := hC159
   refine yk <| ys <| ys <| ysr <| yp 2 [] .z <| ye <| yc (rE p.state 3) (fun hC162 => ?_) fun hC162 => ?_
   ·have hf163 := hC162
    exfalso; omega
   have hf164 := hC162
   refine x_region <| yp 2 [] .z <| ye <| yc (rE p.state 4) (fun hC165 => ?_) fun hC165 => ?_
   ·have hf166 := hC165
    exfalso; omega
   have hf167 := hC165
   refine yk <| ys <| ysr <| yp 2 [] .z <| ye <| yc (rE p.state 7) (fun hC168 => ?_) fun hC168 => ?_
   ·have hf169 := hC168
    refine x_exit (eS (eS (eB (eS (eB (eS (eB (eS (eB (eS (block_exit (nS ?_))))))))))))
    refine ysr <| yp 4 [] (.l (hB14.c 8) .z) <| yw [95] (rI p.within 5) (fun hC170 => ?_) fun hC170 => ?_
    ·have hf171 := hC170
     refine yp 8 [] (.l (hB14.c 8) .z) <| ye <| yc (rI p.within 6) (fun hC172 => ?_) fun hC172 => ?_
     ·have hf173 := hC172
      refine ysr <| yp 1 [] .z <| ye <| x_ret (rB (rS (rB (rS (yR1 (.bool false) ?_)))))
      refine ⟨congrArg Ending.returned (congrArg Value.bool ?_), Up.ch hu17⟩
      unfold prightB unmB
      try rw [show (p.text.toList == ByteArray.empty.toList) = zb p.text from rfl]
      simp [hf21, hf147, hf149, hf152, hf155, hf158, hf161, hf164, hf167, hf169, hf171, hf173]
     have hf174 := hC172
     refine x_skip (nB (nS ?_))
     refine ys <| ysr <| yp 2 [] .z <| yw [101] (rE ((pn : Nat) : Int) 0) (fun hC175 => ?_) fun hC175 => ?_
     ·have hf176 : (p.params.length == 0) = true := by rw [hl]; first | (rw [beq_iff_eq]; omega) | (rw [beq_eq_false_iff_ne]; omega)
      refine yp 3 [] (.a (hB14.cs 0 9) .z) <| yo (yQ (ptextE p pa pn pc _ htz) fun w178 hc177 => ?_)
      have hu179 := Up.step hu17 hc177 iZ
      refine yp 6 [] .z <| ye <| x_ret (rS (rB (rS (yR1 (.bool (textB p.text)) ?_))))
      refine ⟨congrArg Ending.returned (congrArg Value.bool ?_), Up.ch hu179⟩
      unfold prightB unmB
      try rw [show (p.text.toList == ByteArray.empty.toList) = zb p.text from rfl]
      simp [hf21, hf147, hf149, hf152, hf155, hf158, hf161, hf164, hf167, hf169, hf171, hf174, hf176]
     have hf183 : (p.params.length == 0) = false := by rw [hl]; first | (rw [beq_iff_eq]; omega) | (rw [beq_eq_false_iff_ne]; omega)
     refine yp 6 [] .z <| ye <| x_ret (rS (rB (rS (yR1 (.bool false) ?_))))
     refine ⟨congrArg Ending.returned (congrArg Value.bool ?_), Up.ch hu17⟩
     unfold prightB unmB
     try rw [show (p.text.toList == ByteArray.empty.toList) = zb p.text from rfl]
     simp [hf21, hf147, hf149, hf152, hf155, hf158, hf161, hf164, hf167, hf169, hf171, hf174, hf183]
    have hf184 := hC170
    refine yp 8 [] .z <| ye <| ycf <| x_skip (nB (nS ?_))
    refine ys <| ysr <| yp 2 [] .z <| yw [101] (rE ((pn : Nat) : Int) 0) (fun hC185 => ?_) fun hC185 => ?_
    ·have hf186 : (p.params.length == 0) = true := by rw [hl]; first | (rw [beq_iff_eq]; omega) | (rw [beq_eq_false_iff_ne]; omega)
     refine yp 3 [] (.a (hB14.cs 0 9) .z) <| yo (yQ (ptextE p pa pn pc _ htz) fun w188 hc187 => ?_)
     have hu189 := Up.step hu17 hc187 iZ
     refine yp 6 [] .z <| ye <| x_ret (rS (rB (rS (yR1 (.bool (textB p.text)) ?_))))
     refine ⟨congrArg Ending.returned (congrArg Value.bool ?_), Up.ch hu189⟩
     unfold prightB unmB
     try rw [show (p.text.toList == ByteArray.empty.toList) = zb p.text from rfl]
     simp [hf21, hf147, hf149, hf152, hf155, hf158, hf161, hf164, hf167, hf169, hf184, hf186]
    have hf193 : (p.params.length == 0) = false := by rw [hl]; first | (rw [beq_iff_eq]; omega) | (rw [beq_eq_false_iff_ne]; omega)
    refine yp 6 [] .z <| ye <| x_ret (rS (rB (rS (yR1 (.bool false) ?_))))
    refine ⟨congrArg Ending.returned (congrArg Value.bool ?_), Up.ch hu17⟩
    unfold prightB unmB
    try rw [show (p.text.toList == ByteArray.empty.toList) = zb p.text from rfl]
    simp [hf21, hf147, hf149, hf152, hf155, hf158, hf161, hf164, hf167, hf169, hf184, hf193]
   have hf194 := hC168
   exfalso; omega
  have hf195 := hC148
  exfalso; omega
 have hf196 : zb p.marks = false := hC20
 refine yp 10 [] .z <| ye <| ys <| ysr <| yp 4 [] (.l (hB14.c 0) .z) <| yw [21] (rI p.state 7) (fun hC197 => ?_) fun hC197 => ?_
 ·have hf198 := hC197
  refine yp 9 [] (.l (hB14.c 8) .z) <| yw [26] (rI p.within 0) (fun hC199 => ?_) fun hC199 => ?_
  ·have hf200 := hC199
   refine yp 17 [] .z <| ye <| yct <| ysr <| yp 1 [] .z <| ye <| x_ret (rS (yR1 (.bool false) ?_))
   refine ⟨congrArg Ending.returned (congrArg Value.bool ?_), Up.ch hu17⟩
   unfold prightB unmB
   try rw [show (p.text.toList == ByteArray.empty.toList) = zb p.text from rfl]
   simp [hf196, hf198, hf200]
  have hf201 := hC199
  refine yp 13 [] (.l (hB14.c 0) .z) <| yw [30] (rI p.state 0) (fun hC202 => ?_) fun hC202 => ?_
  ·have hf203 := hC202
   refine yp 17 [] .z <| ye <| yc (rN (rY ((((p.utf.b0 : Int) == 0) && (((p.utf.b1 : Int) == 0) && (((p.utf.b2 : Int) == 0) && true))) && (((p.utf.n : Int) == 0) && true)))) (fun hC204 => ?_) fun hC204 => ?_
   ·have hf205 : bareB p.utf = false := by rw [← hC204]; unfold bareB; simp [Bool.and_assoc]
    refine ysr <| yp 1 [] .z <| ye <| x_ret (rS (yR1 (.bool false) ?_))
    refine ⟨congrArg Ending.returned (congrArg Value.bool ?_), Up.ch hu17⟩
    unfold prightB unmB
    try rw [show (p.text.toList == ByteArray.empty.toList) = zb p.text from rfl]
    simp [hf196, hf198, hf201, hf203, hf205]
   have hf206 : bareB p.utf = true := by rw [← hC204]; unfold bareB; simp [Bool.and_assoc]
   refine yk <| ys <| ysr <| yp 2 [] (.l (hB14.c 0) .z) <| ye <| x_block <| ys <| x_block <| ys <| x_block <| ys <| x_block <| ys <| x_block <| ys <| x_block <| ys <| x_block <| ys <| ys <| ysr <| yp 2 [] .z <| ye <| yc (rE p.state 0) (fun hC207 => ?_) fun hC207 => ?_
   ·have hf208 := hC207
    exfalso; omega
   have hf209 := hC207
   refine yk <| ys <| ysr <| yp 2 [] .z <| ye <| yc (rE p.state 1) (fun hC210 => ?_) fun hC210 => ?_
   ·have hf211 := hC210
    refine x_exit (eS (eS (eB (eS (block_exit (nS ?_))))))
    refine ys <| ysr <| yp 7 [] .z <| ye <| x_ret (rS (rB (rS (rB (rS (rB (rS (rB (rS (rB (rS (yR1 (.bool false) ?_))))))))))))
    refine ⟨congrArg Ending.returned (congrArg Value.bool ?_), Up.ch hu17⟩
    unfold prightB unmB
    try rw [show (p.text.toList == ByteArray.empty.toList) = zb p.text from rfl]
    simp [hf196, hf198, hf201, hf203, hf206, hf209, hf211]
   have hf212 := hC210
   refine yk <| ys <| ysr <| yp 2 [] .z <| ye <| yc (rE p.state 2) (fun hC213 => ?_) fun hC213 => ?_
   ·have hf214 := hC213
    refine x_exit (eS (eS (eB (eS (eB (eS (block_exit (nS ?_))))))))
    refine ys <| ysr <| yp 1 [] (.a (hB14.cs 0 9) .z) <| yo (yQ (marksE_low p pa pn pc _) fun w216 hc215 => ?_)
    have hu217 := Up.step hu17 hc215 iZ
    have hB220 := hB14.ch hc215 id
    refine yp 3 [] .z <| yw [70] (rY (marksB 1 lowB p.marks)) (fun hC221 => ?_) fun hC221 => ?_
    ·have hf222 := hC221
     refine yp 9 [] (.l (hB220.c 6) .z) <| yw [76] (rE ((pn : Nat) : Int) 0) (fun hC223 => ?_) fun hC223 => ?_
     ·have hf224 : (p.params.length == 0) = true := by rw [hl]; first | (rw [beq_iff_eq]; omega) | (rw [beq_eq_false_iff_ne]; omega)
      refine yp 14 [] (.l (hB220.c 7) .z) <| ye <| x_ret (rS (rB (rS (rB (rS (rB (rS (rB (rS (yR1 (.bool ((p.text).toList == (ByteArray.empty).toList)) ?_))))))))))
      refine ⟨congrArg Ending.returned (congrArg Value.bool ?_), Up.ch hu217⟩
      unfold prightB unmB
      try rw [show (p.text.toList == ByteArray.empty.toList) = zb p.text from rfl]
      simp [hf196, hf198, hf201, hf203, hf206, hf209, hf212, hf214, hf222, hf224]
     have hf225 : (p.params.length == 0) = false := by rw [hl]; first | (rw [beq_iff_eq]; omega) | (rw [beq_eq_false_iff_ne]; omega)
     refine yp 14 [] .z <| ye <| x_ret (rS (rB (rS (rB (rS (rB (rS (rB (rS (yR1 (.bool false) ?_))))))))))
     refine ⟨congrArg Ending.returned (congrArg Value.bool ?_), Up.ch hu217⟩
     unfold prightB unmB
     try rw [show (p.text.toList == ByteArray.empty.toList) = zb p.text from rfl]
     simp [hf196, hf198, hf201, hf203, hf206, hf209, hf212, hf214, hf222, hf225]
    have hf226 := hC221
    refine yp 14 [] .z <| ye <| x_ret (rS (rB (rS (rB (rS (rB (rS (rB (rS (yR1 (.bool false) ?_))))))))))
    refine ⟨congrArg Ending.returned (congrArg Value.bool ?_), Up.ch hu217⟩
    unfold prightB unmB
    try rw [show (p.text.toList == ByteArray.empty.toList) = zb p.text from rfl]
    simp [hf196, hf198, hf201, hf203, hf206, hf209, hf212, hf214, hf226]
   have hf227 := hC213
   refine yk <| ys <| ys <| ysr <| yp 2 [] .z <| ye <| yc (rE p.state 3) (fun hC228 => ?_) fun hC228 => ?_
   ·have hf229 := hC228
    refine yk <| yc (rE p.state 3) (fun hC230 => ?_) fun hC230 => ?_
    ·have hf231 := hC230
     refine x_exit (eS (eS (eB (eS (eB (eS (eB (eS (block_exit (nS ?_))))))))))
     refine ys <| ysr <| yp 1 [] (.a (hB14.cs 0 9) .z) <| yo (yQ (marksE_wide p pa pn pc _) fun w233 hc232 => ?_)
     have hu234 := Up.step hu17 hc232 iZ
     have hr236 := Rd.ch hr19 hc232 iZ
     have hB237 := hB14.ch hc232 id
     refine yp 3 [] .z <| yw [83] (rY (marksB 0 wideMB p.marks)) (fun hC238 => ?_) fun hC238 => ?_
     ·have hf239 := hC238
      refine yp 4 [] (.a (hB237.cs 0 9) .z) <| yo (yQ (numbersE p pa pn pc _ hr236 hl hz hn) fun w241 hc240 => ?_)
      have hu242 := Up.step hu234 hc240 iZ
      have hB245 := hB237.ch hc240 id
      refine yp 7 [] .z <| yw [87] (rY (numsB p.params)) (fun hC246 => ?_) fun hC246 => ?_
      ·have hf247 := hC246
       refine yp 12 [] (.l (hB245.c 7) .z) <| ye <| x_ret (rS (rB (rS (rB (rS (rB (rS (yR1 (.bool ((p.text).toList == (ByteArray.empty).toList)) ?_))))))))
       refine ⟨congrArg Ending.returned (congrArg Value.bool ?_), Up.ch hu242⟩
       unfold prightB unmB
       try rw [show (p.text.toList == ByteArray.empty.toList) = zb p.text from rfl]
       simp [hf196, hf198, hf201, hf203, hf206, hf209, hf212, hf227, hf229, hf231, hf239, hf247]
      have hf248 := hC246
      refine yp 12 [] .z <| ye <| x_ret (rS (rB (rS (rB (rS (rB (rS (yR1 (.bool false) ?_))))))))
      refine ⟨congrArg Ending.returned (congrArg Value.bool ?_), Up.ch hu242⟩
      unfold prightB unmB
      try rw [show (p.text.toList == ByteArray.empty.toList) = zb p.text from rfl]
      simp [hf196, hf198, hf201, hf203, hf206, hf209, hf212, hf227, hf229, hf231, hf239, hf248]
     have hf249 := hC238
     refine yp 12 [] .z <| ye <| x_ret (rS (rB (rS (rB (rS (rB (rS (yR1 (.bool false) ?_))))))))
     refine ⟨congrArg Ending.returned (congrArg Value.bool ?_), Up.ch hu234⟩
     unfold prightB unmB
     try rw [show (p.text.toList == ByteArray.empty.toList) = zb p.text from rfl]
     simp [hf196, hf198, hf201, hf203, hf206, hf209, hf212, hf227, hf229, hf231, hf249]
    have hf250 := hC230
    exfalso; omega
   have hf251 := hC228
   refine x_region <| yp 2 [] .z <| ye <| yc (rE p.state 4) (fun hC252 => ?_) fun hC252 => ?_
   ·have hf253 := hC252
    refine x_exit (eS (eS (eB (eS (eB (eS (eB (eS (block_exit (nS ?_))))))))))
    refine ys <| ysr <| yp 1 [] (.a (hB14.cs 0 9) .z) <| yo (yQ (marksE_wide p pa pn pc _) fun w255 hc254 => ?_)
    have hu256 := Up.step hu17 hc254 iZ
    have hr258 := Rd.ch hr19 hc254 iZ
    have hB259 := hB14.ch hc254 id
    refine yp 3 [] .z <| yw [83] (rY (marksB 0 wideMB p.marks)) (fun hC260 => ?_) fun hC260 => ?_
    ·have hf261 := hC260
     refine yp 4 [] (.a (hB259.cs 0 9) .z) <| yo (yQ (numbersE p pa pn pc _ hr258 hl hz hn) fun w263 hc262 => ?_)
     have hu264 := Up.step hu256 hc262 iZ
     have hB267 := hB259.ch hc262 id
     refine yp 7 [] .z <| yw [87] (rY (numsB p.params)) (fun hC268 => ?_) fun hC268 => ?_
     ·have hf269 := hC268
      refine yp 12 [] (.l (hB267.c 7) .z) <| ye <| x_ret (rS (rB (rS (rB (rS (rB (rS (yR1 (.bool ((p.text).toList == (ByteArray.empty).toList)) ?_))))))))
      refine ⟨congrArg Ending.returned (congrArg Value.bool ?_), Up.ch hu264⟩
      unfold prightB unmB
      try rw [show (p.text.toList == ByteArray.empty.toList) = zb p.text from rfl]
      simp [hf196, hf198, hf201, hf203, hf206, hf209, hf212, hf227, hf251, hf253, hf261, hf269]
     have hf270 := hC268
     refine yp 12 [] .z <| ye <| x_ret (rS (rB (rS (rB (rS (rB (rS (yR1 (.bool false) ?_))))))))
     refine ⟨congrArg Ending.returned (congrArg Value.bool ?_), Up.ch hu264⟩
     unfold prightB unmB
     try rw [show (p.text.toList == ByteArray.empty.toList) = zb p.text from rfl]
     simp [hf196, hf198, hf201, hf203, hf206, hf209, hf212, hf227, hf251, hf253, hf261, hf270]
    have hf271 := hC260
    refine yp 12 [] .z <| ye <| x_ret (rS (rB (rS (rB (rS (rB (rS (yR1 (.bool false) ?_))))))))
    refine ⟨congrArg Ending.returned (congrArg Value.bool ?_), Up.ch hu256⟩
    unfold prightB unmB
    try rw [show (p.text.toList == ByteArray.empty.toList) = zb p.text from rfl]
    simp [hf196, hf198, hf201, hf203, hf206, hf209, hf212, hf227, hf251, hf253, hf271]
   have hf272 := hC252
   refine yk <| ys <| ysr <| yp 2 [] .z <| ye <| yc (rE p.state 7) (fun hC273 => ?_) fun hC273 => ?_
   ·have hf274 := hC273
    exfalso; omega
   have hf275 := hC273
   refine yk <| ys <| ysr <| yp 2 [] .z <| ye <| yc (rE p.state 5) (fun hC276 => ?_) fun hC276 => ?_
   ·have hf277 := hC276
    refine yk <| yc (rE p.state 5) (fun hC278 => ?_) fun hC278 => ?_
    ·have hf279 := hC278
     refine x_exit (eS (eB (eS (eB (eS (eB (eS (eB (eS (eB (eS (block_exit (nS ?_)))))))))))))
     refine ys <| ysr <| yp 6 [] .z <| ye <| x_ret (rS (rB (rS (yR1 (.bool false) ?_))))
     refine ⟨congrArg Ending.returned (congrArg Value.bool ?_), Up.ch hu17⟩
     unfold prightB unmB
     try rw [show (p.text.toList == ByteArray.empty.toList) = zb p.text from rfl]
     simp [hf196, hf198, hf201, hf203, hf206, hf209, hf212, hf227, hf251, hf272, hf275, hf277, hf279]
    have hf280 := hC278
    exfalso; omega
   have hf281 := hC276
   refine x_region <| yp 2 [] .z <| ye <| yc (rE p.state 6) (fun hC282 => ?_) fun hC282 => ?_
   ·have hf283 := hC282
    refine x_exit (eS (eB (eS (eB (eS (eB (eS (eB (eS (eB (eS (block_exit (nS ?_)))))))))))))
    refine ys <| ysr <| yp 6 [] .z <| ye <| x_ret (rS (rB (rS (yR1 (.bool false) ?_))))
    refine ⟨congrArg Ending.returned (congrArg Value.bool ?_), Up.ch hu17⟩
    unfold prightB unmB
    try rw [show (p.text.toList == ByteArray.empty.toList) = zb p.text from rfl]
    simp [hf196, hf198, hf201, hf203, hf206, hf209, hf212, hf227, hf251, hf272, hf275, hf281, hf283]
   have hf284 := hC282
   refine yk <| x_exit (eB (eS (eB (eS (eB (eS (eB (eS (eB (eS (eB (eS (block_exit (nS ?_))))))))))))))
   refine ysr <| yp 1 [] .z <| ye <| x_ret (yR1 (.bool false) ?_)
   refine ⟨congrArg Ending.returned (congrArg Value.bool ?_), Up.ch hu17⟩
   unfold prightB unmB
   try rw [show (p.text.toList == ByteArray.empty.toList) = zb p.text from rfl]
   simp [hf196, hf198, hf201, hf203, hf206, hf209, hf212, hf227, hf251, hf272, hf275, hf281, hf284]
  have hf285 := hC202
  refine yp 17 [] .z <| ye <| ycf <| yk <| ys <| ysr <| yp 2 [] (.l (hB14.c 0) .z) <| ye <| x_block <| ys <| x_block <| ys <| x_block <| ys <| x_block <| ys <| x_block <| ys <| x_block <| ys <| x_block <| ys <| ys <| ysr <| yp 2 [] .z <| ye <| yc (rE p.state 0) (fun hC286 => ?_) fun hC286 => ?_
  ·have hf287 := hC286
   refine x_exit (eS (eS (block_exit (nS ?_))))
   refine ys <| ysr <| yp 2 [] (.a (hB14.cs 1 4) .z) <| yo (yQ (urightE p.utf _ hU18 ho) fun w289 hc288 => ?_)
   have hu290 := Up.step hu17 hc288 iZ
   refine yp 4 [] .z <| yw [54] (rY (utB p.utf)) (fun hC294 => ?_) fun hC294 => ?_
   ·have hf295 := hC294
    refine yp 12 [] .z <| ye <| x_ret (rS (rB (rS (rB (rS (rB (rS (rB (rS (rB (rS (rB (rS (yR1 (.bool false) ?_))))))))))))))
    refine ⟨congrArg Ending.returned (congrArg Value.bool ?_), Up.ch hu290⟩
    unfold prightB unmB
    try rw [show (p.text.toList == ByteArray.empty.toList) = zb p.text from rfl]
    simp [hf196, hf198, hf201, hf285, hf287, hf295]
   have hf296 := hC294
   refine yp 12 [] .z <| ye <| x_ret (rS (rB (rS (rB (rS (rB (rS (rB (rS (rB (rS (rB (rS (yR1 (.bool false) ?_))))))))))))))
   refine ⟨congrArg Ending.returned (congrArg Value.bool ?_), Up.ch hu290⟩
   unfold prightB unmB
   try rw [show (p.text.toList == ByteArray.empty.toList) = zb p.text from rfl]
   simp [hf196, hf198, hf201, hf285, hf287, hf296]
  have hf297 := hC286
  exfalso; omega
 have hf298 := hC197
 refine yp 13 [] (.l (hB14.c 0) .z) <| yw [30] (rI p.state 0) (fun hC299 => ?_) fun hC299 => ?_
 ·have hf300 := hC299
  refine yp 17 [] .z <| ye <| yc (rN (rY ((((p.utf.b0 : Int) == 0) && (((p.utf.b1 : Int) == 0) && (((p.utf.b2 : Int) == 0) && true))) && (((p.utf.n : Int) == 0) && true)))) (fun hC301 => ?_) fun hC301 => ?_
  ·have hf302 : bareB p.utf = false := by rw [← hC301]; unfold bareB; simp [Bool.and_assoc]
   refine ysr <| yp 1 [] .z <| ye <| x_ret (rS (yR1 (.bool false) ?_))
   refine ⟨congrArg Ending.returned (congrArg Value.bool ?_), Up.ch hu17⟩
   unfold prightB unmB
   try rw [show (p.text.toList == ByteArray.empty.toList) = zb p.text from rfl]
   simp [hf196, hf298, hf300, hf302]
  have hf303 : bareB p.utf = true := by rw [← hC301]; unfold bareB; simp [Bool.and_assoc]
  refine yk <| ys <| ysr <| yp 2 [] (.l (hB14.c 0) .z) <| ye <| x_block <| ys <| x_block <| ys <| x_block <| ys <| x_block <| ys <| x_block <| ys <| x_block <| ys <| x_block <| ys <| ys <| ysr <| yp 2 [] .z <| ye <| yc (rE p.state 0) (fun hC304 => ?_) fun hC304 => ?_
  ·have hf305 := hC304
   exfalso; omega
  have hf306 := hC304
  refine yk <| ys <| ysr <| yp 2 [] .z <| ye <| yc (rE p.state 1) (fun hC307 => ?_) fun hC307 => ?_
  ·have hf308 := hC307
   exfalso; omega
  have hf309 := hC307
  refine yk <| ys <| ysr <| yp 2 [] .z <| ye <| yc (rE p.state 2) (fun hC310 => ?_) fun hC310 => ?_
  ·have hf311 := hC310
   exfalso; omega
  have hf312 := hC310
  refine yk <| ys <| ys <| ysr <| yp 2 [] .z <| ye <| yc (rE p.state 3) (fun hC313 => ?_) fun hC313 => ?_
  ·have hf314 := hC313
   exfalso; omega
  have hf315 := hC313
  refine x_region <| yp 2 [] .z <| ye <| yc (rE p.state 4) (fun hC316 => ?_) fun hC316 => ?_
  ·have hf317 := hC316
   exfalso; omega
  have hf318 := hC316
  refine yk <| ys <| ysr <| yp 2 [] .z <| ye <| yc (rE p.state 7) (fun hC319 => ?_) fun hC319 => ?_
  ·have hf320 := hC319
   refine x_exit (eS (eS (eB (eS (eB (eS (eB (eS (eB (eS (block_exit (nS ?_))))))))))))
   refine ysr <| yp 4 [] (.l (hB14.c 8) .z) <| yw [95] (rI p.within 5) (fun hC321 => ?_) fun hC321 => ?_
   ·have hf322 := hC321
    refine yp 8 [] (.l (hB14.c 8) .z) <| ye <| yc (rI p.within 6) (fun hC323 => ?_) fun hC323 => ?_
    ·have hf324 := hC323
     refine ysr <| yp 1 [] .z <| ye <| x_ret (rB (rS (rB (rS (yR1 (.bool false) ?_)))))
     refine ⟨congrArg Ending.returned (congrArg Value.bool ?_), Up.ch hu17⟩
     unfold prightB unmB
     try rw [show (p.text.toList == ByteArray.empty.toList) = zb p.text from rfl]
     simp [hf196, hf298, hf300, hf303, hf306, hf309, hf312, hf315, hf318, hf320, hf322, hf324]
    have hf325 := hC323
    refine x_skip (nB (nS ?_))
    refine ys <| ysr <| yp 6 [] .z <| ye <| x_ret (rS (rB (rS (yR1 (.bool false) ?_))))
    refine ⟨congrArg Ending.returned (congrArg Value.bool ?_), Up.ch hu17⟩
    unfold prightB unmB
    try rw [show (p.text.toList == ByteArray.empty.toList) = zb p.text from rfl]
    simp [hf196, hf298, hf300, hf303, hf306, hf309, hf312, hf315, hf318, hf320, hf322, hf325]
   have hf326 := hC321
   refine yp 8 [] .z <| ye <| ycf <| x_skip (nB (nS ?_))
   refine ys <| ysr <| yp 6 [] .z <| ye <| x_ret (rS (rB (rS (yR1 (.bool false) ?_))))
   refine ⟨congrArg Ending.returned (congrArg Value.bool ?_), Up.ch hu17⟩
   unfold prightB unmB
   try rw [show (p.text.toList == ByteArray.empty.toList) = zb p.text from rfl]
   simp [hf196, hf298, hf300, hf303, hf306, hf309, hf312, hf315, hf318, hf320, hf326]
  have hf327 := hC319
  exfalso; omega
 have hf328 := hC299
 exfalso; omega
end Go.Proofs.YtclnfbmmaofpjaaDoor.X
namespace Go.Proofs.YtclnfbmmaofpjaaDoor.X
open Go Go.RowKit Go.Proofs.YtclnfbmmaofpjaaDoor
abbrev tSr : TypeId := 57
structure RowO where
 b : Option Nat
 n : Nat
 cap : Nat
 l : List Cel
def RowO.val (x : RowO) : Value := .slice (x.b.map at0) x.n x.cap
structure RowsO (w : World) (m : Nat) (rows : List RowO) : Prop where
 line : ∀ x ∈ rows, Own w tCell 6 x.b x.n x.cap (flat x.l) ∧ x.l.length = x.n
 lo : ∀ x ∈ rows, ∀ b, x.b = some b → m ≤ b
 nd : rows.Pairwise fun x y => ∀ b, x.b = some b → y.b ≠ some b
structure OutO (w : World) (m : Nat) (o : Option Nat) (n cap : Nat) (rows : List RowO) : Prop where
 own : Own w tLine 1 o n cap (rows.map RowO.val)
 lo : ∀ b, o = some b → m ≤ b
 rs : RowsO w m rows
theorem rowO_one (rows : List RowO) : ((rows.map RowO.val).all fun c => c.oneCell') = true := by
 refine List.all_eq_true.2 fun v hv => ?_
 obtain ⟨x, _, rfl⟩ := List.mem_map.1 hv
 rfl
section
variable {w w' : World} {m n cap : Nat} {o : Option Nat} {rows : List RowO} {B : Nat → Prop}
theorem OutO.nil (w : World) (m : Nat) : OutO w m none 0 0 [] := ⟨Own.nil _ _ _, (fun b e => by cases e), ⟨(fun x hx => by cases hx), (fun x hx => by cases hx), List.Pairwise.nil⟩⟩
theorem RowsO.ch (h : RowsO w m rows) (hc : Ch B w w') (hB : ∀ x ∈ rows, ∀ b, x.b = some b → ¬ B b) : RowsO w' m rows :=
 ⟨fun x hx => ⟨(h.line x hx).1.ch hc fun g e => hB x hx g e, (h.line x hx).2⟩, h.lo, h.nd⟩
theorem RowsO.lt (h : RowsO w m rows) : ∀ x ∈ rows, ∀ b, x.b = some b → b < w.heap.size := fun x hx b e => by
 have := (h.line x hx).1
 rw [e] at this
 exact this.lt
theorem OutO.ch (h : OutO w m o n cap rows) (hc : Ch B w w') (hB : ∀ b, m ≤ b → b < w.heap.size → ¬ B b) : OutO w' m o n cap rows :=
 ⟨h.own.ch hc fun g e => hB g (h.lo g e) (by have := h.own; rw [e] at this; exact this.lt), h.lo, h.rs.ch hc fun x hx b e => hB b (h.rs.lo x hx b e) (h.rs.lt x hx b e)⟩
theorem OutO.len (h : OutO w m o n cap rows) : rows.length = n := by
 have := h.own.1
 rwa [List.length_map, Nat.mul_one] at this
theorem OutO.low {m' : Nat} (h : OutO w m o n cap rows) (hm : m' ≤ m) : OutO w m' o n cap rows :=
 ⟨h.own, fun b e => Nat.le_trans hm (h.lo b e), ⟨h.rs.line, fun x hx b e => Nat.le_trans hm (h.rs.lo x hx b e), h.rs.nd⟩⟩
theorem OutO.off (h : OutO w m o n cap rows) {e : Option Nat} {k c : Nat} {xs : List Value} (ho : Own w tLine 1 e k c xs) : ∀ x ∈ rows, ∀ b, x.b = some b → ¬ e = some b := fun x hx b hb he => by
 obtain ⟨h1, h2⟩ := h.rs.line x hx
 rw [hb] at h1
 obtain ⟨r1, _, k1⟩ := h1.2.2.2.2 b rfl
 obtain ⟨r2, _, k2⟩ := ho.2.2.2.2 b he
 exact tys (k2.inj k1).2
theorem OutO.app {o' : Option Nat} {cap' n' : Nat} {rows' : List RowO} (h : OutO w m o n cap rows) (hr : RowsO w m rows') (hm : m ≤ w.heap.size) (hd : ∀ x ∈ rows, ∀ y ∈ rows', ∀ b, x.b = some b → y.b ≠ some b)
  (hO : Own w' tLine 1 o' n' cap' ((rows ++ rows').map RowO.val)) (hA : App w w' o o') : OutO w' m o' n' cap' (rows ++ rows') := by
 have hoff' : ∀ x ∈ rows', ∀ b, x.b = some b → ¬ o = some b := fun x hx b hb he => by
  obtain ⟨h1, h2⟩ := hr.line x hx
  rw [hb] at h1
  obtain ⟨r1, _, k1⟩ := h1.2.2.2.2 b rfl
  obtain ⟨r2, _, k2⟩ := h.own.2.2.2.2 b he
  exact tys (k2.inj k1).2
 refine ⟨hO, fun b e => ?_, ⟨fun x hx => ?_, fun x hx => ?_, ?_⟩⟩
 ·rcases hA.ne with rfl | ⟨g, rfl, hg⟩
  ·exact h.lo b e
  ·have := Option.some.inj e; omega
 ·rcases List.mem_append.1 hx with hx | hx
  ·exact ⟨(h.rs.line x hx).1.ch hA.ch fun g e => h.off h.own x hx g e, (h.rs.line x hx).2⟩
  ·exact ⟨(hr.line x hx).1.ch hA.ch fun g e => hoff' x hx g e, (hr.line x hx).2⟩
 ·rcases List.mem_append.1 hx with hx | hx
  ·exact h.rs.lo x hx
  ·exact hr.lo x hx
 ·exact List.pairwise_append.2 ⟨h.rs.nd, hr.nd, fun x hx y hy => hd x hx y hy⟩
theorem RowsO.one {b : Option Nat} {k c : Nat} {l : List Cel} (h : Own w tCell 6 b k c (flat l)) (hl : l.length = k) (hlo : ∀ y, b = some y → m ≤ y) : RowsO w m [⟨b, k, c, l⟩] :=
 ⟨fun x hx => by rw [List.mem_singleton.1 hx]; exact ⟨h, hl⟩, fun x hx => by rw [List.mem_singleton.1 hx]; exact hlo, List.pairwise_singleton _ _⟩
end
structure SrIn (w : World) (sr rv D : Nat) (fine : Bool) (s : RS) : Prop where
 blk : Blk w sr [.pointer (some ⟨rv, 0, none⟩), .bool fine] tSr
 rd : RdrAt w rv D s
 ne : ¬ sr = rv
 nd : ¬ sr = D
def srB (sr rv : Nat) : Nat → Prop := fun j => j = sr ∨ j = rv
end Go.Proofs.YtclnfbmmaofpjaaDoor.X
namespace Go.Proofs.YtclnfbmmaofpjaaDoor.X
open Go Go.RowKit Go.Proofs.YtclnfbmmaofpjaaDoor
set_option maxHeartbeats 4000000 in
theorem cursorR_any {sr rv D : Nat} {s0 s1 : RS} {fine ok : Bool} {c : Cur} {W H : Int} {w : World} (hS : SrIn w sr rv D fine s0) (hC : curR W H s0 = (c, ok, s1)) (hW : 1 ≤ W ∧ W ≤ 60) (hH : 1 ≤ H ∧ H ≤ 60) : Calls Tryd.prog 13 [pX sr, iX W, iX H].toArray w fun e w' =>
    e = .returned (.agg #[iX c.x, iX c.y, .bool c.late, .bool c.sty.bold, .bool c.sty.under, .bool c.sty.turned, iX c.sty.fore, iX c.sty.back]) ∧ SrIn w' sr rv D (fine && ok) s1 ∧ Ch (srB sr rv) w w' := by
  refine yA Tryd.func13 rfl ?_
  refine ysr ?_
  refine yo (yN [iX 0, iX 0, .bool false, .bool false, .bool false, .bool false, iX 0, iX 0] 32 fun w10 b11 hb12 hz13 hB14 hc15 => ?_)
  have hX16 : Ch (srB sr rv) w w10 := Ch.trans (Ch.refl (srB sr rv) w) hc15 eZ
  have hlo17 : w.heap.size ≤ b11 := by rw [hb12]; exact Ch.size (Ch.refl (srB sr rv) w)
  have hB18 := hS.blk.ch hc15 id
  have hA19 := hS.rd.ch hc15 id id
  refine ye ?_
  refine ys ?_
  refine x_drawnB (fun j => j = rv) [16, 20] (by kernel_rfl) (fun w20 hH21 hc22 => ?_)
  have hX23 : Ch (srB sr rv) w w20 := Ch.trans hX16 hc22 eZ
  have hB24 := hB18.ch hc22 id
  have hA25 := hA19.ch hc22 id id
  have hB26 := hB14.ch hc22 id
  refine ydC [0, 1, 2, 3, 4, 6, 7, 8, 9, 10, 12, 13, 14, 15] [] (fun u hu => (.l (cell_ch hu (hB24.c 0) hS.ne) (.l (cell_ch hu (hB24.c 0) hS.ne) (.l (cell_ch hu (hB24.c 0) hS.ne) .z)))) ?_
  refine x_dtwo 5 19 (by kernel_rfl) (by decide) ?_ ?_
  · obtain ⟨x27, s28, hN29⟩ : ∃ x s', numR (W) s0 = (x, s') := ⟨_, _, rfl⟩
    have hbd32 := numR_bd (lim := W) (s := s0)
    rw [hN29] at hbd32
    dsimp only at hbd32
    refine x_seff 5 _ (by kernel_rfl) rfl (yQ (num_any (lim := W) hA25 hN29 (by omega)) ?_)
    rintro w33 ⟨hA30, hc31⟩
    have hX34 : Ch (srB sr rv) w w33 := Ch.trans hX23 hc31 (fun _ _ h => .inr h)
    have hB35 := hB24.ch hc31 hS.ne
    have hB36 := hB26.ch hc31 (fun (h : b11 = rv) => by have := hlo17; have := hS.rd.lt; omega)
    refine x_heldB hc31 iZ ?_
    refine x_dtwo 11 19 (by kernel_rfl) (by decide) ?_ ?_
    · obtain ⟨x37, s38, hN39⟩ : ∃ x s', numR (H) s28 = (x, s') := ⟨_, _, rfl⟩
      have hbd42 := numR_bd (lim := H) (s := s28)
      rw [hN39] at hbd42
      dsimp only at hbd42
      refine x_seff 11 _ (by kernel_rfl) rfl (yQ (num_any (lim := H) hA30 hN39 (by omega)) ?_)
      rintro w43 ⟨hA40, hc41⟩
      have hX44 : Ch (srB sr rv) w w43 := Ch.trans hX34 hc41 (fun _ _ h => .inr h)
      have hB45 := hB35.ch hc41 hS.ne
      have hB46 := hB36.ch hc41 (fun (h : b11 = rv) => by have := hlo17; have := hS.rd.lt; omega)
      refine x_heldB hc41 iZ ?_
      refine x_dtwo 16 19 (by kernel_rfl) (by decide) ?_ ?_
      · obtain ⟨x47, s48, hN49⟩ : ∃ x s', numR (2) s38 = (x, s') := ⟨_, _, rfl⟩
        have hbd52 := numR_bd (lim := 2) (s := s38)
        rw [hN49] at hbd52
        dsimp only at hbd52
        refine x_skill 16 _ (by kernel_rfl) rfl (yQ (num_any (lim := 2) hA40 hN49 (by omega)) ?_)
        rintro w53 ⟨hA50, hc51⟩
        have hX54 : Ch (srB sr rv) w w53 := Ch.trans hX44 hc51 (fun _ _ h => .inr h)
        have hB55 := hB45.ch hc51 hS.ne
        have hB56 := hB46.ch hc51 (fun (h : b11 = rv) => by have := hlo17; have := hS.rd.lt; omega)
        refine x_killedB (B := fun j => j = rv) ?_
        refine ydC [17, 18] [] (fun u hu => .z) ?_
        refine yH 19 (yN [iX 0, iX 0, .bool false, .bool false, .bool false, .bool false, iX 0, iX 0] 32 fun w57 b58 hb59 hz60 hB61 hc62 => ?_)
        have hX63 : Ch (srB sr rv) w w57 := Ch.trans hX54 hc62 eZ
        have hlo64 : w.heap.size ≤ b58 := by rw [hb59]; exact Ch.size hX54
        have hB65 := hB55.ch hc62 id
        have hB66 := hB56.ch hc62 id
        have hA67 := hA50.ch hc62 id id
        refine x_heldB hc62 eZ ?_
        refine yK 20 (yS hB61 fun w68 hB69 hc70 => ?_)
        have hX71 : Ch (srB sr rv) w w68 := Ch.trans hX63 hc70 (fun i hi (h : i = b58) => by have := hlo64; omega)
        have hB72 := hB65.ch hc70 (fun (h : sr = b58) => by have := hlo64; have := hS.blk.lt; omega)
        have hB73 := hB66.ch hc70 (fun (h : b11 = b58) => by have := hB56.lt; omega)
        have hA74 := hA67.ch hc70 (fun (h : rv = b58) => by have := hlo64; have := hS.rd.lt; omega) (fun (h : D = b58) => by have := hlo64; have := hS.rd.dlt; omega)
        replace hB69 : Blk w68 b58 [iX x27, iX x37, .bool ((x47 : Int) == 1), .bool false, .bool false, .bool false, iX 0, iX 0] _ := Blk.to hB69 (by kernel_rfl)
        refine x_killed ?_
        refine yDe (nS ?_)
        refine ysr ?_
        refine yp 4 [] (.l (hB72.c 0) .z) ?_
        obtain ⟨t75, ok76, s77, hN78⟩ : ∃ t ok s', styR s48 = (t, ok, s') := ⟨_, _, _, rfl⟩
        refine yo (yQ (takeStyle_any hA74 hN78) ?_)
        rintro w81 ⟨hA79, hc80⟩
        have hX82 : Ch (srB sr rv) w w81 := Ch.trans hX71 hc80 (fun _ _ h => .inr h)
        have hB83 := hB72.ch hc80 hS.ne
        have hB84 := hB73.ch hc80 (fun (h : b11 = rv) => by have := hlo17; have := hS.rd.lt; omega)
        have hB85 := hB69.ch hc80 (fun (h : b58 = rv) => by have := hlo64; have := hS.rd.lt; omega)
        refine yp 8 [] .z ?_
        refine yo (yN [.bool false, .bool false, .bool false, iX 0, iX 0] 30 fun w86 b87 hb88 hz89 hB90 hc91 => ?_)
        have hX92 : Ch (srB sr rv) w w86 := Ch.trans hX82 hc91 eZ
        have hlo93 : w.heap.size ≤ b87 := by rw [hb88]; exact Ch.size hX82
        have hB94 := hB83.ch hc91 id
        have hB95 := hB84.ch hc91 id
        have hB96 := hB85.ch hc91 id
        have hA97 := hA79.ch hc91 id id
        refine yo (yS hB90 fun w98 hB99 hc100 => ?_)
        have hX101 : Ch (srB sr rv) w w98 := Ch.trans hX92 hc100 (fun i hi (h : i = b87) => by have := hlo93; omega)
        have hB102 := hB94.ch hc100 (fun (h : sr = b87) => by have := hlo93; have := hS.blk.lt; omega)
        have hB103 := hB95.ch hc100 (fun (h : b11 = b87) => by have := hB84.lt; omega)
        have hB104 := hB96.ch hc100 (fun (h : b58 = b87) => by have := hB85.lt; omega)
        have hA105 := hA97.ch hc100 (fun (h : rv = b87) => by have := hlo93; have := hS.rd.lt; omega) (fun (h : D = b87) => by have := hlo93; have := hS.rd.dlt; omega)
        replace hB99 : Blk w98 b87 [.bool t75.bold, .bool t75.under, .bool t75.turned, iX t75.fore, iX t75.back] _ := Blk.to hB99 (by kernel_rfl)
        refine yp 11 [] .z ?_
        refine ye ?_
        refine ysr ?_
        refine yp 2 [] (.a (hB99.cs 0 5) .z) ?_
        refine yo (yS hB104 fun w106 hB107 hc108 => ?_)
        have hX109 : Ch (srB sr rv) w w106 := Ch.trans hX101 hc108 (fun i hi (h : i = b58) => by have := hlo64; omega)
        have hB110 := hB102.ch hc108 (fun (h : sr = b58) => by have := hlo64; have := hS.blk.lt; omega)
        have hB111 := hB103.ch hc108 (fun (h : b11 = b58) => by have := hB56.lt; omega)
        have hA112 := hA105.ch hc108 (fun (h : rv = b58) => by have := hlo64; have := hS.rd.lt; omega) (fun (h : D = b58) => by have := hlo64; have := hS.rd.dlt; omega)
        replace hB107 : Blk w106 b58 [iX x27, iX x37, .bool ((x47 : Int) == 1), .bool t75.bold, .bool t75.under, .bool t75.turned, iX t75.fore, iX t75.back] _ := Blk.to hB107 (by kernel_rfl)
        refine ye ?_
        refine ysr ?_
        refine yp 6 [] (.l (hB110.c 1) .z) ?_
        refine yw [44] (rY fine) (fun hC114 => ?_) fun hC114 => ?_
        · have hf115 := hC114
          refine yp 9 [] .z ?_
          refine yw [47] (rY ok76) (fun hC116 => ?_) fun hC116 => ?_
          · have hf117 := hC116
            refine yp 13 [] (.l (hB107.c 2) .z) ?_
            refine yw [51] (rN (rE x47 1)) (fun hC118 => ?_) fun hC118 => ?_
            · have hf119 := hC118
              refine yp 22 [] .z ?_
              refine yo (yS hB110 fun w120 hB121 hc122 => ?_)
              have hX123 : Ch (srB sr rv) w w120 := Ch.trans hX109 hc122 (fun _ _ h => .inl h)
              have hB124 := hB111.ch hc122 (fun (h : b11 = sr) => by have := hlo17; have := hS.blk.lt; omega)
              have hA125 := hA112.ch hc122 (fun h => hS.ne h.symm) (fun h => hS.nd h.symm)
              have hB127 := hB107.ch hc122 (fun (h : b58 = sr) => by have := hlo64; have := hS.blk.lt; omega)
              replace hB121 : Blk w120 sr [pX rv, .bool true] _ := Blk.to hB121 (by kernel_rfl)
              refine ye ?_
              refine ysr ?_
              refine yp 1 [] (.a (hB127.cs 0 8) .z) ?_
              refine yo (yS hB124 fun w128 hB129 hc130 => ?_)
              have hX131 : Ch (srB sr rv) w w128 := Ch.trans hX123 hc130 (fun i hi (h : i = b11) => by have := hlo17; omega)
              have hA132 := hA125.ch hc130 (fun (h : rv = b11) => by have := hlo17; have := hS.rd.lt; omega) (fun (h : D = b11) => by have := hlo17; have := hS.rd.dlt; omega)
              have hB135 := hB121.ch hc130 (fun (h : sr = b11) => by have := hlo17; have := hS.blk.lt; omega)
              replace hB129 : Blk w128 b11 [iX x27, iX x37, .bool ((x47 : Int) == 1), .bool t75.bold, .bool t75.under, .bool t75.turned, iX t75.fore, iX t75.back] _ := Blk.to hB129 (by kernel_rfl)
              refine ye ?_
              refine x_ret (yR1c (.agg #[iX x27, iX x37, .bool ((x47 : Int) == 1), .bool t75.bold, .bool t75.under, .bool t75.turned, iX t75.fore, iX t75.back]) (.a (hB129.cs 0 8) .z) ?_)
              rw [curR_eq hN29 hN39 hN49 hN78] at hC
              simp only [Prod.mk.injEq] at hC
              obtain ⟨rfl, rfl, rfl⟩ := hC
              have hb136 : true = (fine && (ok76 && (!(x47 == 1) || x27 == W - 1))) := by simp [hf115, hf117, hf119]
              exact ⟨rfl, ⟨by rw [← hb136]; exact hB135, hA132, hS.ne, hS.nd⟩, hX131⟩
            · have hf137 := hC118
              refine yp 22 [] (.l (hB107.c 0) (.q6 (W - 1) .z)) ?_
              refine yo (yS hB110 fun w138 hB139 hc140 => ?_)
              have hX141 : Ch (srB sr rv) w w138 := Ch.trans hX109 hc140 (fun _ _ h => .inl h)
              have hB142 := hB111.ch hc140 (fun (h : b11 = sr) => by have := hlo17; have := hS.blk.lt; omega)
              have hA143 := hA112.ch hc140 (fun h => hS.ne h.symm) (fun h => hS.nd h.symm)
              have hB145 := hB107.ch hc140 (fun (h : b58 = sr) => by have := hlo64; have := hS.blk.lt; omega)
              replace hB139 : Blk w138 sr [pX rv, .bool ((x27 : Int) == (W - 1))] _ := Blk.to hB139 (by kernel_rfl)
              refine ye ?_
              refine ysr ?_
              refine yp 1 [] (.a (hB145.cs 0 8) .z) ?_
              refine yo (yS hB142 fun w146 hB147 hc148 => ?_)
              have hX149 : Ch (srB sr rv) w w146 := Ch.trans hX141 hc148 (fun i hi (h : i = b11) => by have := hlo17; omega)
              have hA150 := hA143.ch hc148 (fun (h : rv = b11) => by have := hlo17; have := hS.rd.lt; omega) (fun (h : D = b11) => by have := hlo17; have := hS.rd.dlt; omega)
              have hB153 := hB139.ch hc148 (fun (h : sr = b11) => by have := hlo17; have := hS.blk.lt; omega)
              replace hB147 : Blk w146 b11 [iX x27, iX x37, .bool ((x47 : Int) == 1), .bool t75.bold, .bool t75.under, .bool t75.turned, iX t75.fore, iX t75.back] _ := Blk.to hB147 (by kernel_rfl)
              refine ye ?_
              refine x_ret (yR1c (.agg #[iX x27, iX x37, .bool ((x47 : Int) == 1), .bool t75.bold, .bool t75.under, .bool t75.turned, iX t75.fore, iX t75.back]) (.a (hB147.cs 0 8) .z) ?_)
              rw [curR_eq hN29 hN39 hN49 hN78] at hC
              simp only [Prod.mk.injEq] at hC
              obtain ⟨rfl, rfl, rfl⟩ := hC
              have hb154 : ((x27 : Int) == (W - 1)) = (fine && (ok76 && (!(x47 == 1) || x27 == W - 1))) := by simp [hf115, hf117, hf137]
              exact ⟨rfl, ⟨by rw [← hb154]; exact hB153, hA150, hS.ne, hS.nd⟩, hX149⟩
          · have hf155 := hC116
            refine yp 22 [] .z ?_
            refine yo (yS hB110 fun w156 hB157 hc158 => ?_)
            have hX159 : Ch (srB sr rv) w w156 := Ch.trans hX109 hc158 (fun _ _ h => .inl h)
            have hB160 := hB111.ch hc158 (fun (h : b11 = sr) => by have := hlo17; have := hS.blk.lt; omega)
            have hA161 := hA112.ch hc158 (fun h => hS.ne h.symm) (fun h => hS.nd h.symm)
            have hB163 := hB107.ch hc158 (fun (h : b58 = sr) => by have := hlo64; have := hS.blk.lt; omega)
            replace hB157 : Blk w156 sr [pX rv, .bool false] _ := Blk.to hB157 (by kernel_rfl)
            refine ye ?_
            refine ysr ?_
            refine yp 1 [] (.a (hB163.cs 0 8) .z) ?_
            refine yo (yS hB160 fun w164 hB165 hc166 => ?_)
            have hX167 : Ch (srB sr rv) w w164 := Ch.trans hX159 hc166 (fun i hi (h : i = b11) => by have := hlo17; omega)
            have hA168 := hA161.ch hc166 (fun (h : rv = b11) => by have := hlo17; have := hS.rd.lt; omega) (fun (h : D = b11) => by have := hlo17; have := hS.rd.dlt; omega)
            have hB171 := hB157.ch hc166 (fun (h : sr = b11) => by have := hlo17; have := hS.blk.lt; omega)
            replace hB165 : Blk w164 b11 [iX x27, iX x37, .bool ((x47 : Int) == 1), .bool t75.bold, .bool t75.under, .bool t75.turned, iX t75.fore, iX t75.back] _ := Blk.to hB165 (by kernel_rfl)
            refine ye ?_
            refine x_ret (yR1c (.agg #[iX x27, iX x37, .bool ((x47 : Int) == 1), .bool t75.bold, .bool t75.under, .bool t75.turned, iX t75.fore, iX t75.back]) (.a (hB165.cs 0 8) .z) ?_)
            rw [curR_eq hN29 hN39 hN49 hN78] at hC
            simp only [Prod.mk.injEq] at hC
            obtain ⟨rfl, rfl, rfl⟩ := hC
            have hb172 : false = (fine && (ok76 && (!(x47 == 1) || x27 == W - 1))) := by simp [hf115, hf155]
            exact ⟨rfl, ⟨by rw [← hb172]; exact hB171, hA168, hS.ne, hS.nd⟩, hX167⟩
        · have hf173 := hC114
          refine yp 22 [] .z ?_
          refine yo (yS hB110 fun w174 hB175 hc176 => ?_)
          have hX177 : Ch (srB sr rv) w w174 := Ch.trans hX109 hc176 (fun _ _ h => .inl h)
          have hB178 := hB111.ch hc176 (fun (h : b11 = sr) => by have := hlo17; have := hS.blk.lt; omega)
          have hA179 := hA112.ch hc176 (fun h => hS.ne h.symm) (fun h => hS.nd h.symm)
          have hB181 := hB107.ch hc176 (fun (h : b58 = sr) => by have := hlo64; have := hS.blk.lt; omega)
          replace hB175 : Blk w174 sr [pX rv, .bool false] _ := Blk.to hB175 (by kernel_rfl)
          refine ye ?_
          refine ysr ?_
          refine yp 1 [] (.a (hB181.cs 0 8) .z) ?_
          refine yo (yS hB178 fun w182 hB183 hc184 => ?_)
          have hX185 : Ch (srB sr rv) w w182 := Ch.trans hX177 hc184 (fun i hi (h : i = b11) => by have := hlo17; omega)
          have hA186 := hA179.ch hc184 (fun (h : rv = b11) => by have := hlo17; have := hS.rd.lt; omega) (fun (h : D = b11) => by have := hlo17; have := hS.rd.dlt; omega)
          have hB189 := hB175.ch hc184 (fun (h : sr = b11) => by have := hlo17; have := hS.blk.lt; omega)
          replace hB183 : Blk w182 b11 [iX x27, iX x37, .bool ((x47 : Int) == 1), .bool t75.bold, .bool t75.under, .bool t75.turned, iX t75.fore, iX t75.back] _ := Blk.to hB183 (by kernel_rfl)
          refine ye ?_
          refine x_ret (yR1c (.agg #[iX x27, iX x37, .bool ((x47 : Int) == 1), .bool t75.bold, .bool t75.under, .bool t75.turned, iX t75.fore, iX t75.back]) (.a (hB183.cs 0 8) .z) ?_)
          rw [curR_eq hN29 hN39 hN49 hN78] at hC
          simp only [Prod.mk.injEq] at hC
          obtain ⟨rfl, rfl, rfl⟩ := hC
          have hb190 : false = (fine && (ok76 && (!(x47 == 1) || x27 == W - 1))) := by simp [hf173]
          exact ⟨rfl, ⟨by rw [← hb190]; exact hB189, hA186, hS.ne, hS.nd⟩, hX185⟩
      · refine x_seff 19 _ (by kernel_rfl) rfl (yN [iX 0, iX 0, .bool false, .bool false, .bool false, .bool false, iX 0, iX 0] 32 fun w191 b192 hb193 hz194 hB195 hc196 => ?_)
        have hX197 : Ch (srB sr rv) w w191 := Ch.trans hX44 hc196 eZ
        have hlo198 : w.heap.size ≤ b192 := by rw [hb193]; exact Ch.size hX44
        have hB199 := hB45.ch hc196 id
        have hB200 := hB46.ch hc196 id
        have hA201 := hA40.ch hc196 id id
        refine x_heldB hc196 eZ ?_
        obtain ⟨x202, s203, hN204⟩ : ∃ x s', numR (2) s38 = (x, s') := ⟨_, _, rfl⟩
        have hbd207 := numR_bd (lim := 2) (s := s38)
        rw [hN204] at hbd207
        dsimp only at hbd207
        refine yK 16 (yQ (num_any (lim := 2) hA201 hN204 (by omega)) ?_)
        rintro w208 ⟨hA205, hc206⟩
        have hX209 : Ch (srB sr rv) w w208 := Ch.trans hX197 hc206 (fun _ _ h => .inr h)
        have hB210 := hB199.ch hc206 hS.ne
        have hB211 := hB200.ch hc206 (fun (h : b11 = rv) => by have := hlo17; have := hS.rd.lt; omega)
        have hB212 := hB195.ch hc206 (fun (h : b192 = rv) => by have := hlo198; have := hS.rd.lt; omega)
        refine x_killed ?_
        refine yd [17, 18] [] .z ?_
        refine yK 20 (yS hB212 fun w213 hB214 hc215 => ?_)
        have hX216 : Ch (srB sr rv) w w213 := Ch.trans hX209 hc215 (fun i hi (h : i = b192) => by have := hlo198; omega)
        have hB217 := hB210.ch hc215 (fun (h : sr = b192) => by have := hlo198; have := hS.blk.lt; omega)
        have hB218 := hB211.ch hc215 (fun (h : b11 = b192) => by have := hB46.lt; omega)
        have hA219 := hA205.ch hc215 (fun (h : rv = b192) => by have := hlo198; have := hS.rd.lt; omega) (fun (h : D = b192) => by have := hlo198; have := hS.rd.dlt; omega)
        replace hB214 : Blk w213 b192 [iX x27, iX x37, .bool ((x202 : Int) == 1), .bool false, .bool false, .bool false, iX 0, iX 0] _ := Blk.to hB214 (by kernel_rfl)
        refine x_killed ?_
        refine yDe (nS ?_)
        refine ysr ?_
        refine yp 4 [] (.l (hB217.c 0) .z) ?_
        obtain ⟨t220, ok221, s222, hN223⟩ : ∃ t ok s', styR s203 = (t, ok, s') := ⟨_, _, _, rfl⟩
        refine yo (yQ (takeStyle_any hA219 hN223) ?_)
        rintro w226 ⟨hA224, hc225⟩
        have hX227 : Ch (srB sr rv) w w226 := Ch.trans hX216 hc225 (fun _ _ h => .inr h)
        have hB228 := hB217.ch hc225 hS.ne
        have hB229 := hB218.ch hc225 (fun (h : b11 = rv) => by have := hlo17; have := hS.rd.lt; omega)
        have hB230 := hB214.ch hc225 (fun (h : b192 = rv) => by have := hlo198; have := hS.rd.lt; omega)
        refine yp 8 [] .z ?_
        refine yo (yN [.bool false, .bool false, .bool false, iX 0, iX 0] 30 fun w231 b232 hb233 hz234 hB235 hc236 => ?_)
        have hX237 : Ch (srB sr rv) w w231 := Ch.trans hX227 hc236 eZ
        have hlo238 : w.heap.size ≤ b232 := by rw [hb233]; exact Ch.size hX227
        have hB239 := hB228.ch hc236 id
        have hB240 := hB229.ch hc236 id
        have hB241 := hB230.ch hc236 id
        have hA242 := hA224.ch hc236 id id
        refine yo (yS hB235 fun w243 hB244 hc245 => ?_)
        have hX246 : Ch (srB sr rv) w w243 := Ch.trans hX237 hc245 (fun i hi (h : i = b232) => by have := hlo238; omega)
        have hB247 := hB239.ch hc245 (fun (h : sr = b232) => by have := hlo238; have := hS.blk.lt; omega)
        have hB248 := hB240.ch hc245 (fun (h : b11 = b232) => by have := hB229.lt; omega)
        have hB249 := hB241.ch hc245 (fun (h : b192 = b232) => by have := hB230.lt; omega)
        have hA250 := hA242.ch hc245 (fun (h : rv = b232) => by have := hlo238; have := hS.rd.lt; omega) (fun (h : D = b232) => by have := hlo238; have := hS.rd.dlt; omega)
        replace hB244 : Blk w243 b232 [.bool t220.bold, .bool t220.under, .bool t220.turned, iX t220.fore, iX t220.back] _ := Blk.to hB244 (by kernel_rfl)
        refine yp 11 [] .z ?_
        refine ye ?_
        refine ysr ?_
        refine yp 2 [] (.a (hB244.cs 0 5) .z) ?_
        refine yo (yS hB249 fun w251 hB252 hc253 => ?_)
        have hX254 : Ch (srB sr rv) w w251 := Ch.trans hX246 hc253 (fun i hi (h : i = b192) => by have := hlo198; omega)
        have hB255 := hB247.ch hc253 (fun (h : sr = b192) => by have := hlo198; have := hS.blk.lt; omega)
        have hB256 := hB248.ch hc253 (fun (h : b11 = b192) => by have := hB46.lt; omega)
        have hA257 := hA250.ch hc253 (fun (h : rv = b192) => by have := hlo198; have := hS.rd.lt; omega) (fun (h : D = b192) => by have := hlo198; have := hS.rd.dlt; omega)
        replace hB252 : Blk w251 b192 [iX x27, iX x37, .bool ((x202 : Int) == 1), .bool t220.bold, .bool t220.under, .bool t220.turned, iX t220.fore, iX t220.back] _ := Blk.to hB252 (by kernel_rfl)
        refine ye ?_
        refine ysr ?_
        refine yp 6 [] (.l (hB255.c 1) .z) ?_
        refine yw [44] (rY fine) (fun hC259 => ?_) fun hC259 => ?_
        · have hf260 := hC259
          refine yp 9 [] .z ?_
          refine yw [47] (rY ok221) (fun hC261 => ?_) fun hC261 => ?_
          · have hf262 := hC261
            refine yp 13 [] (.l (hB252.c 2) .z) ?_
            refine yw [51] (rN (rE x202 1)) (fun hC263 => ?_) fun hC263 => ?_
            · have hf264 := hC263
              refine yp 22 [] .z ?_
              refine yo (yS hB255 fun w265 hB266 hc267 => ?_)
              have hX268 : Ch (srB sr rv) w w265 := Ch.trans hX254 hc267 (fun _ _ h => .inl h)
              have hB269 := hB256.ch hc267 (fun (h : b11 = sr) => by have := hlo17; have := hS.blk.lt; omega)
              have hA270 := hA257.ch hc267 (fun h => hS.ne h.symm) (fun h => hS.nd h.symm)
              have hB272 := hB252.ch hc267 (fun (h : b192 = sr) => by have := hlo198; have := hS.blk.lt; omega)
              replace hB266 : Blk w265 sr [pX rv, .bool true] _ := Blk.to hB266 (by kernel_rfl)
              refine ye ?_
              refine ysr ?_
              refine yp 1 [] (.a (hB272.cs 0 8) .z) ?_
              refine yo (yS hB269 fun w273 hB274 hc275 => ?_)
              have hX276 : Ch (srB sr rv) w w273 := Ch.trans hX268 hc275 (fun i hi (h : i = b11) => by have := hlo17; omega)
              have hA277 := hA270.ch hc275 (fun (h : rv = b11) => by have := hlo17; have := hS.rd.lt; omega) (fun (h : D = b11) => by have := hlo17; have := hS.rd.dlt; omega)
              have hB280 := hB266.ch hc275 (fun (h : sr = b11) => by have := hlo17; have := hS.blk.lt; omega)
              replace hB274 : Blk w273 b11 [iX x27, iX x37, .bool ((x202 : Int) == 1), .bool t220.bold, .bool t220.under, .bool t220.turned, iX t220.fore, iX t220.back] _ := Blk.to hB274 (by kernel_rfl)
              refine ye ?_
              refine x_ret (yR1c (.agg #[iX x27, iX x37, .bool ((x202 : Int) == 1), .bool t220.bold, .bool t220.under, .bool t220.turned, iX t220.fore, iX t220.back]) (.a (hB274.cs 0 8) .z) ?_)
              rw [curR_eq hN29 hN39 hN204 hN223] at hC
              simp only [Prod.mk.injEq] at hC
              obtain ⟨rfl, rfl, rfl⟩ := hC
              have hb281 : true = (fine && (ok221 && (!(x202 == 1) || x27 == W - 1))) := by simp [hf260, hf262, hf264]
              exact ⟨rfl, ⟨by rw [← hb281]; exact hB280, hA277, hS.ne, hS.nd⟩, hX276⟩
            · have hf282 := hC263
              refine yp 22 [] (.l (hB252.c 0) (.q6 (W - 1) .z)) ?_
              refine yo (yS hB255 fun w283 hB284 hc285 => ?_)
              have hX286 : Ch (srB sr rv) w w283 := Ch.trans hX254 hc285 (fun _ _ h => .inl h)
              have hB287 := hB256.ch hc285 (fun (h : b11 = sr) => by have := hlo17; have := hS.blk.lt; omega)
              have hA288 := hA257.ch hc285 (fun h => hS.ne h.symm) (fun h => hS.nd h.symm)
              have hB290 := hB252.ch hc285 (fun (h : b192 = sr) => by have := hlo198; have := hS.blk.lt; omega)
              replace hB284 : Blk w283 sr [pX rv, .bool ((x27 : Int) == (W - 1))] _ := Blk.to hB284 (by kernel_rfl)
              refine ye ?_
              refine ysr ?_
              refine yp 1 [] (.a (hB290.cs 0 8) .z) ?_
              refine yo (yS hB287 fun w291 hB292 hc293 => ?_)
              have hX294 : Ch (srB sr rv) w w291 := Ch.trans hX286 hc293 (fun i hi (h : i = b11) => by have := hlo17; omega)
              have hA295 := hA288.ch hc293 (fun (h : rv = b11) => by have := hlo17; have := hS.rd.lt; omega) (fun (h : D = b11) => by have := hlo17; have := hS.rd.dlt; omega)
              have hB298 := hB284.ch hc293 (fun (h : sr = b11) => by have := hlo17; have := hS.blk.lt; omega)
              replace hB292 : Blk w291 b11 [iX x27, iX x37, .bool ((x202 : Int) == 1), .bool t220.bold, .bool t220.under, .bool t220.turned, iX t220.fore, iX t220.back] _ := Blk.to hB292 (by kernel_rfl)
              refine ye ?_
              refine x_ret (yR1c (.agg #[iX x27, iX x37, .bool ((x202 : Int) == 1), .bool t220.bold, .bool t220.under, .bool t220.turned, iX t220.fore, iX t220.back]) (.a (hB292.cs 0 8) .z) ?_)
              rw [curR_eq hN29 hN39 hN204 hN223] at hC
              simp only [Prod.mk.injEq] at hC
              obtain ⟨rfl, rfl, rfl⟩ := hC
              have hb299 : ((x27 : Int) == (W - 1)) = (fine && (ok221 && (!(x202 == 1) || x27 == W - 1))) := by simp [hf260, hf262, hf282]
              exact ⟨rfl, ⟨by rw [← hb299]; exact hB298, hA295, hS.ne, hS.nd⟩, hX294⟩
          · have hf300 := hC261
            refine yp 22 [] .z ?_
            refine yo (yS hB255 fun w301 hB302 hc303 => ?_)
            have hX304 : Ch (srB sr rv) w w301 := Ch.trans hX254 hc303 (fun _ _ h => .inl h)
            have hB305 := hB256.ch hc303 (fun (h : b11 = sr) => by have := hlo17; have := hS.blk.lt; omega)
            have hA306 := hA257.ch hc303 (fun h => hS.ne h.symm) (fun h => hS.nd h.symm)
            have hB308 := hB252.ch hc303 (fun (h : b192 = sr) => by have := hlo198; have := hS.blk.lt; omega)
            replace hB302 : Blk w301 sr [pX rv, .bool false] _ := Blk.to hB302 (by kernel_rfl)
            refine ye ?_
            refine ysr ?_
            refine yp 1 [] (.a (hB308.cs 0 8) .z) ?_
            refine yo (yS hB305 fun w309 hB310 hc311 => ?_)
            have hX312 : Ch (srB sr rv) w w309 := Ch.trans hX304 hc311 (fun i hi (h : i = b11) => by have := hlo17; omega)
            have hA313 := hA306.ch hc311 (fun (h : rv = b11) => by have := hlo17; have := hS.rd.lt; omega) (fun (h : D = b11) => by have := hlo17; have := hS.rd.dlt; omega)
            have hB316 := hB302.ch hc311 (fun (h : sr = b11) => by have := hlo17; have := hS.blk.lt; omega)
            replace hB310 : Blk w309 b11 [iX x27, iX x37, .bool ((x202 : Int) == 1), .bool t220.bold, .bool t220.under, .bool t220.turned, iX t220.fore, iX t220.back] _ := Blk.to hB310 (by kernel_rfl)
            refine ye ?_
            refine x_ret (yR1c (.agg #[iX x27, iX x37, .bool ((x202 : Int) == 1), .bool t220.bold, .bool t220.under, .bool t220.turned, iX t220.fore, iX t220.back]) (.a (hB310.cs 0 8) .z) ?_)
            rw [curR_eq hN29 hN39 hN204 hN223] at hC
            simp only [Prod.mk.injEq] at hC
            obtain ⟨rfl, rfl, rfl⟩ := hC
            have hb317 : false = (fine && (ok221 && (!(x202 == 1) || x27 == W - 1))) := by simp [hf260, hf300]
            exact ⟨rfl, ⟨by rw [← hb317]; exact hB316, hA313, hS.ne, hS.nd⟩, hX312⟩
        · have hf318 := hC259
          refine yp 22 [] .z ?_
          refine yo (yS hB255 fun w319 hB320 hc321 => ?_)
          have hX322 : Ch (srB sr rv) w w319 := Ch.trans hX254 hc321 (fun _ _ h => .inl h)
          have hB323 := hB256.ch hc321 (fun (h : b11 = sr) => by have := hlo17; have := hS.blk.lt; omega)
          have hA324 := hA257.ch hc321 (fun h => hS.ne h.symm) (fun h => hS.nd h.symm)
          have hB326 := hB252.ch hc321 (fun (h : b192 = sr) => by have := hlo198; have := hS.blk.lt; omega)
          replace hB320 : Blk w319 sr [pX rv, .bool false] _ := Blk.to hB320 (by kernel_rfl)
          refine ye ?_
          refine ysr ?_
          refine yp 1 [] (.a (hB326.cs 0 8) .z) ?_
          refine yo (yS hB323 fun w327 hB328 hc329 => ?_)
          have hX330 : Ch (srB sr rv) w w327 := Ch.trans hX322 hc329 (fun i hi (h : i = b11) => by have := hlo17; omega)
          have hA331 := hA324.ch hc329 (fun (h : rv = b11) => by have := hlo17; have := hS.rd.lt; omega) (fun (h : D = b11) => by have := hlo17; have := hS.rd.dlt; omega)
          have hB334 := hB320.ch hc329 (fun (h : sr = b11) => by have := hlo17; have := hS.blk.lt; omega)
          replace hB328 : Blk w327 b11 [iX x27, iX x37, .bool ((x202 : Int) == 1), .bool t220.bold, .bool t220.under, .bool t220.turned, iX t220.fore, iX t220.back] _ := Blk.to hB328 (by kernel_rfl)
          refine ye ?_
          refine x_ret (yR1c (.agg #[iX x27, iX x37, .bool ((x202 : Int) == 1), .bool t220.bold, .bool t220.under, .bool t220.turned, iX t220.fore, iX t220.back]) (.a (hB328.cs 0 8) .z) ?_)
          rw [curR_eq hN29 hN39 hN204 hN223] at hC
          simp only [Prod.mk.injEq] at hC
          obtain ⟨rfl, rfl, rfl⟩ := hC
          have hb335 : false = (fine && (ok221 && (!(x202 == 1) || x27 == W - 1))) := by simp [hf318]
          exact ⟨rfl, ⟨by rw [← hb335]; exact hB334, hA331, hS.ne, hS.nd⟩, hX330⟩
    · refine x_seff 19 _ (by kernel_rfl) rfl (yN [iX 0, iX 0, .bool false, .bool false, .bool false, .bool false, iX 0, iX 0] 32 fun w336 b337 hb338 hz339 hB340 hc341 => ?_)
      have hX342 : Ch (srB sr rv) w w336 := Ch.trans hX34 hc341 eZ
      have hlo343 : w.heap.size ≤ b337 := by rw [hb338]; exact Ch.size hX34
      have hB344 := hB35.ch hc341 id
      have hB345 := hB36.ch hc341 id
      have hA346 := hA30.ch hc341 id id
      refine x_heldB hc341 eZ ?_
      obtain ⟨x347, s348, hN349⟩ : ∃ x s', numR (H) s28 = (x, s') := ⟨_, _, rfl⟩
      have hbd352 := numR_bd (lim := H) (s := s28)
      rw [hN349] at hbd352
      dsimp only at hbd352
      refine yH 11 (yQ (num_any (lim := H) hA346 hN349 (by omega)) ?_)
      rintro w353 ⟨hA350, hc351⟩
      have hX354 : Ch (srB sr rv) w w353 := Ch.trans hX342 hc351 (fun _ _ h => .inr h)
      have hB355 := hB344.ch hc351 hS.ne
      have hB356 := hB345.ch hc351 (fun (h : b11 = rv) => by have := hlo17; have := hS.rd.lt; omega)
      have hB357 := hB340.ch hc351 (fun (h : b337 = rv) => by have := hlo343; have := hS.rd.lt; omega)
      refine x_heldB hc351 iZ ?_
      obtain ⟨x358, s359, hN360⟩ : ∃ x s', numR (2) s348 = (x, s') := ⟨_, _, rfl⟩
      have hbd363 := numR_bd (lim := 2) (s := s348)
      rw [hN360] at hbd363
      dsimp only at hbd363
      refine yK 16 (yQ (num_any (lim := 2) hA350 hN360 (by omega)) ?_)
      rintro w364 ⟨hA361, hc362⟩
      have hX365 : Ch (srB sr rv) w w364 := Ch.trans hX354 hc362 (fun _ _ h => .inr h)
      have hB366 := hB355.ch hc362 hS.ne
      have hB367 := hB356.ch hc362 (fun (h : b11 = rv) => by have := hlo17; have := hS.rd.lt; omega)
      have hB368 := hB357.ch hc362 (fun (h : b337 = rv) => by have := hlo343; have := hS.rd.lt; omega)
      refine x_killed ?_
      refine yd [17, 18] [] .z ?_
      refine yK 20 (yS hB368 fun w369 hB370 hc371 => ?_)
      have hX372 : Ch (srB sr rv) w w369 := Ch.trans hX365 hc371 (fun i hi (h : i = b337) => by have := hlo343; omega)
      have hB373 := hB366.ch hc371 (fun (h : sr = b337) => by have := hlo343; have := hS.blk.lt; omega)
      have hB374 := hB367.ch hc371 (fun (h : b11 = b337) => by have := hB36.lt; omega)
      have hA375 := hA361.ch hc371 (fun (h : rv = b337) => by have := hlo343; have := hS.rd.lt; omega) (fun (h : D = b337) => by have := hlo343; have := hS.rd.dlt; omega)
      replace hB370 : Blk w369 b337 [iX x27, iX x347, .bool ((x358 : Int) == 1), .bool false, .bool false, .bool false, iX 0, iX 0] _ := Blk.to hB370 (by kernel_rfl)
      refine x_killed ?_
      refine yDe (nS ?_)
      refine ysr ?_
      refine yp 4 [] (.l (hB373.c 0) .z) ?_
      obtain ⟨t376, ok377, s378, hN379⟩ : ∃ t ok s', styR s359 = (t, ok, s') := ⟨_, _, _, rfl⟩
      refine yo (yQ (takeStyle_any hA375 hN379) ?_)
      rintro w382 ⟨hA380, hc381⟩
      have hX383 : Ch (srB sr rv) w w382 := Ch.trans hX372 hc381 (fun _ _ h => .inr h)
      have hB384 := hB373.ch hc381 hS.ne
      have hB385 := hB374.ch hc381 (fun (h : b11 = rv) => by have := hlo17; have := hS.rd.lt; omega)
      have hB386 := hB370.ch hc381 (fun (h : b337 = rv) => by have := hlo343; have := hS.rd.lt; omega)
      refine yp 8 [] .z ?_
      refine yo (yN [.bool false, .bool false, .bool false, iX 0, iX 0] 30 fun w387 b388 hb389 hz390 hB391 hc392 => ?_)
      have hX393 : Ch (srB sr rv) w w387 := Ch.trans hX383 hc392 eZ
      have hlo394 : w.heap.size ≤ b388 := by rw [hb389]; exact Ch.size hX383
      have hB395 := hB384.ch hc392 id
      have hB396 := hB385.ch hc392 id
      have hB397 := hB386.ch hc392 id
      have hA398 := hA380.ch hc392 id id
      refine yo (yS hB391 fun w399 hB400 hc401 => ?_)
      have hX402 : Ch (srB sr rv) w w399 := Ch.trans hX393 hc401 (fun i hi (h : i = b388) => by have := hlo394; omega)
      have hB403 := hB395.ch hc401 (fun (h : sr = b388) => by have := hlo394; have := hS.blk.lt; omega)
      have hB404 := hB396.ch hc401 (fun (h : b11 = b388) => by have := hB385.lt; omega)
      have hB405 := hB397.ch hc401 (fun (h : b337 = b388) => by have := hB386.lt; omega)
      have hA406 := hA398.ch hc401 (fun (h : rv = b388) => by have := hlo394; have := hS.rd.lt; omega) (fun (h : D = b388) => by have := hlo394; have := hS.rd.dlt; omega)
      replace hB400 : Blk w399 b388 [.bool t376.bold, .bool t376.under, .bool t376.turned, iX t376.fore, iX t376.back] _ := Blk.to hB400 (by kernel_rfl)
      refine yp 11 [] .z ?_
      refine ye ?_
      refine ysr ?_
      refine yp 2 [] (.a (hB400.cs 0 5) .z) ?_
      refine yo (yS hB405 fun w407 hB408 hc409 => ?_)
      have hX410 : Ch (srB sr rv) w w407 := Ch.trans hX402 hc409 (fun i hi (h : i = b337) => by have := hlo343; omega)
      have hB411 := hB403.ch hc409 (fun (h : sr = b337) => by have := hlo343; have := hS.blk.lt; omega)
      have hB412 := hB404.ch hc409 (fun (h : b11 = b337) => by have := hB36.lt; omega)
      have hA413 := hA406.ch hc409 (fun (h : rv = b337) => by have := hlo343; have := hS.rd.lt; omega) (fun (h : D = b337) => by have := hlo343; have := hS.rd.dlt; omega)
      replace hB408 : Blk w407 b337 [iX x27, iX x347, .bool ((x358 : Int) == 1), .bool t376.bold, .bool t376.under, .bool t376.turned, iX t376.fore, iX t376.back] _ := Blk.to hB408 (by kernel_rfl)
      refine ye ?_
      refine ysr ?_
      refine yp 6 [] (.l (hB411.c 1) .z) ?_
      refine yw [44] (rY fine) (fun hC415 => ?_) fun hC415 => ?_
      · have hf416 := hC415
        refine yp 9 [] .z ?_
        refine yw [47] (rY ok377) (fun hC417 => ?_) fun hC417 => ?_
        · have hf418 := hC417
          refine yp 13 [] (.l (hB408.c 2) .z) ?_
          refine yw [51] (rN (rE x358 1)) (fun hC419 => ?_) fun hC419 => ?_
          · have hf420 := hC419
            refine yp 22 [] .z ?_
            refine yo (yS hB411 fun w421 hB422 hc423 => ?_)
            have hX424 : Ch (srB sr rv) w w421 := Ch.trans hX410 hc423 (fun _ _ h => .inl h)
            have hB425 := hB412.ch hc423 (fun (h : b11 = sr) => by have := hlo17; have := hS.blk.lt; omega)
            have hA426 := hA413.ch hc423 (fun h => hS.ne h.symm) (fun h => hS.nd h.symm)
            have hB428 := hB408.ch hc423 (fun (h : b337 = sr) => by have := hlo343; have := hS.blk.lt; omega)
            replace hB422 : Blk w421 sr [pX rv, .bool true] _ := Blk.to hB422 (by kernel_rfl)
            refine ye ?_
            refine ysr ?_
            refine yp 1 [] (.a (hB428.cs 0 8) .z) ?_
            refine yo (yS hB425 fun w429 hB430 hc431 => ?_)
            have hX432 : Ch (srB sr rv) w w429 := Ch.trans hX424 hc431 (fun i hi (h : i = b11) => by have := hlo17; omega)
            have hA433 := hA426.ch hc431 (fun (h : rv = b11) => by have := hlo17; have := hS.rd.lt; omega) (fun (h : D = b11) => by have := hlo17; have := hS.rd.dlt; omega)
            have hB436 := hB422.ch hc431 (fun (h : sr = b11) => by have := hlo17; have := hS.blk.lt; omega)
            replace hB430 : Blk w429 b11 [iX x27, iX x347, .bool ((x358 : Int) == 1), .bool t376.bold, .bool t376.under, .bool t376.turned, iX t376.fore, iX t376.back] _ := Blk.to hB430 (by kernel_rfl)
            refine ye ?_
            refine x_ret (yR1c (.agg #[iX x27, iX x347, .bool ((x358 : Int) == 1), .bool t376.bold, .bool t376.under, .bool t376.turned, iX t376.fore, iX t376.back]) (.a (hB430.cs 0 8) .z) ?_)
            rw [curR_eq hN29 hN349 hN360 hN379] at hC
            simp only [Prod.mk.injEq] at hC
            obtain ⟨rfl, rfl, rfl⟩ := hC
            have hb437 : true = (fine && (ok377 && (!(x358 == 1) || x27 == W - 1))) := by simp [hf416, hf418, hf420]
            exact ⟨rfl, ⟨by rw [← hb437]; exact hB436, hA433, hS.ne, hS.nd⟩, hX432⟩
          · have hf438 := hC419
            refine yp 22 [] (.l (hB408.c 0) (.q6 (W - 1) .z)) ?_
            refine yo (yS hB411 fun w439 hB440 hc441 => ?_)
            have hX442 : Ch (srB sr rv) w w439 := Ch.trans hX410 hc441 (fun _ _ h => .inl h)
            have hB443 := hB412.ch hc441 (fun (h : b11 = sr) => by have := hlo17; have := hS.blk.lt; omega)
            have hA444 := hA413.ch hc441 (fun h => hS.ne h.symm) (fun h => hS.nd h.symm)
            have hB446 := hB408.ch hc441 (fun (h : b337 = sr) => by have := hlo343; have := hS.blk.lt; omega)
            replace hB440 : Blk w439 sr [pX rv, .bool ((x27 : Int) == (W - 1))] _ := Blk.to hB440 (by kernel_rfl)
            refine ye ?_
            refine ysr ?_
            refine yp 1 [] (.a (hB446.cs 0 8) .z) ?_
            refine yo (yS hB443 fun w447 hB448 hc449 => ?_)
            have hX450 : Ch (srB sr rv) w w447 := Ch.trans hX442 hc449 (fun i hi (h : i = b11) => by have := hlo17; omega)
            have hA451 := hA444.ch hc449 (fun (h : rv = b11) => by have := hlo17; have := hS.rd.lt; omega) (fun (h : D = b11) => by have := hlo17; have := hS.rd.dlt; omega)
            have hB454 := hB440.ch hc449 (fun (h : sr = b11) => by have := hlo17; have := hS.blk.lt; omega)
            replace hB448 : Blk w447 b11 [iX x27, iX x347, .bool ((x358 : Int) == 1), .bool t376.bold, .bool t376.under, .bool t376.turned, iX t376.fore, iX t376.back] _ := Blk.to hB448 (by kernel_rfl)
            refine ye ?_
            refine x_ret (yR1c (.agg #[iX x27, iX x347, .bool ((x358 : Int) == 1), .bool t376.bold, .bool t376.under, .bool t376.turned, iX t376.fore, iX t376.back]) (.a (hB448.cs 0 8) .z) ?_)
            rw [curR_eq hN29 hN349 hN360 hN379] at hC
            simp only [Prod.mk.injEq] at hC
            obtain ⟨rfl, rfl, rfl⟩ := hC
            have hb455 : ((x27 : Int) == (W - 1)) = (fine && (ok377 && (!(x358 == 1) || x27 == W - 1))) := by simp [hf416, hf418, hf438]
            exact ⟨rfl, ⟨by rw [← hb455]; exact hB454, hA451, hS.ne, hS.nd⟩, hX450⟩
        · have hf456 := hC417
          refine yp 22 [] .z ?_
          refine yo (yS hB411 fun w457 hB458 hc459 => ?_)
          have hX460 : Ch (srB sr rv) w w457 := Ch.trans hX410 hc459 (fun _ _ h => .inl h)
          have hB461 := hB412.ch hc459 (fun (h : b11 = sr) => by have := hlo17; have := hS.blk.lt; omega)
          have hA462 := hA413.ch hc459 (fun h => hS.ne h.symm) (fun h => hS.nd h.symm)
          have hB464 := hB408.ch hc459 (fun (h : b337 = sr) => by have := hlo343; have := hS.blk.lt; omega)
          replace hB458 : Blk w457 sr [pX rv, .bool false] _ := Blk.to hB458 (by kernel_rfl)
          refine ye ?_
          refine ysr ?_
          refine yp 1 [] (.a (hB464.cs 0 8) .z) ?_
          refine yo (yS hB461 fun w465 hB466 hc467 => ?_)
          have hX468 : Ch (srB sr rv) w w465 := Ch.trans hX460 hc467 (fun i hi (h : i = b11) => by have := hlo17; omega)
          have hA469 := hA462.ch hc467 (fun (h : rv = b11) => by have := hlo17; have := hS.rd.lt; omega) (fun (h : D = b11) => by have := hlo17; have := hS.rd.dlt; omega)
          have hB472 := hB458.ch hc467 (fun (h : sr = b11) => by have := hlo17; have := hS.blk.lt; omega)
          replace hB466 : Blk w465 b11 [iX x27, iX x347, .bool ((x358 : Int) == 1), .bool t376.bold, .bool t376.under, .bool t376.turned, iX t376.fore, iX t376.back] _ := Blk.to hB466 (by kernel_rfl)
          refine ye ?_
          refine x_ret (yR1c (.agg #[iX x27, iX x347, .bool ((x358 : Int) == 1), .bool t376.bold, .bool t376.under, .bool t376.turned, iX t376.fore, iX t376.back]) (.a (hB466.cs 0 8) .z) ?_)
          rw [curR_eq hN29 hN349 hN360 hN379] at hC
          simp only [Prod.mk.injEq] at hC
          obtain ⟨rfl, rfl, rfl⟩ := hC
          have hb473 : false = (fine && (ok377 && (!(x358 == 1) || x27 == W - 1))) := by simp [hf416, hf456]
          exact ⟨rfl, ⟨by rw [← hb473]; exact hB472, hA469, hS.ne, hS.nd⟩, hX468⟩
      · have hf474 := hC415
        refine yp 22 [] .z ?_
        refine yo (yS hB411 fun w475 hB476 hc477 => ?_)
        have hX478 : Ch (srB sr rv) w w475 := Ch.trans hX410 hc477 (fun _ _ h => .inl h)
        have hB479 := hB412.ch hc477 (fun (h : b11 = sr) => by have := hlo17; have := hS.blk.lt; omega)
        have hA480 := hA413.ch hc477 (fun h => hS.ne h.symm) (fun h => hS.nd h.symm)
        have hB482 := hB408.ch hc477 (fun (h : b337 = sr) => by have := hlo343; have := hS.blk.lt; omega)
        replace hB476 : Blk w475 sr [pX rv, .bool false] _ := Blk.to hB476 (by kernel_rfl)
        refine ye ?_
        refine ysr ?_
        refine yp 1 [] (.a (hB482.cs 0 8) .z) ?_
        refine yo (yS hB479 fun w483 hB484 hc485 => ?_)
        have hX486 : Ch (srB sr rv) w w483 := Ch.trans hX478 hc485 (fun i hi (h : i = b11) => by have := hlo17; omega)
        have hA487 := hA480.ch hc485 (fun (h : rv = b11) => by have := hlo17; have := hS.rd.lt; omega) (fun (h : D = b11) => by have := hlo17; have := hS.rd.dlt; omega)
        have hB490 := hB476.ch hc485 (fun (h : sr = b11) => by have := hlo17; have := hS.blk.lt; omega)
        replace hB484 : Blk w483 b11 [iX x27, iX x347, .bool ((x358 : Int) == 1), .bool t376.bold, .bool t376.under, .bool t376.turned, iX t376.fore, iX t376.back] _ := Blk.to hB484 (by kernel_rfl)
        refine ye ?_
        refine x_ret (yR1c (.agg #[iX x27, iX x347, .bool ((x358 : Int) == 1), .bool t376.bold, .bool t376.under, .bool t376.turned, iX t376.fore, iX t376.back]) (.a (hB484.cs 0 8) .z) ?_)
        rw [curR_eq hN29 hN349 hN360 hN379] at hC
        simp only [Prod.mk.injEq] at hC
        obtain ⟨rfl, rfl, rfl⟩ := hC
        have hb491 : false = (fine && (ok377 && (!(x358 == 1) || x27 == W - 1))) := by simp [hf474]
        exact ⟨rfl, ⟨by rw [← hb491]; exact hB490, hA487, hS.ne, hS.nd⟩, hX486⟩
  · refine x_seff 19 _ (by kernel_rfl) rfl (yN [iX 0, iX 0, .bool false, .bool false, .bool false, .bool false, iX 0, iX 0] 32 fun w492 b493 hb494 hz495 hB496 hc497 => ?_)
    have hX498 : Ch (srB sr rv) w w492 := Ch.trans hX23 hc497 eZ
    have hlo499 : w.heap.size ≤ b493 := by rw [hb494]; exact Ch.size hX23
    have hB500 := hB24.ch hc497 id
    have hA501 := hA25.ch hc497 id id
    have hB502 := hB26.ch hc497 id
    refine x_heldB hc497 eZ ?_
    obtain ⟨x503, s504, hN505⟩ : ∃ x s', numR (W) s0 = (x, s') := ⟨_, _, rfl⟩
    have hbd508 := numR_bd (lim := W) (s := s0)
    rw [hN505] at hbd508
    dsimp only at hbd508
    refine yH 5 (yQ (num_any (lim := W) hA501 hN505 (by omega)) ?_)
    rintro w509 ⟨hA506, hc507⟩
    have hX510 : Ch (srB sr rv) w w509 := Ch.trans hX498 hc507 (fun _ _ h => .inr h)
    have hB511 := hB500.ch hc507 hS.ne
    have hB512 := hB502.ch hc507 (fun (h : b11 = rv) => by have := hlo17; have := hS.rd.lt; omega)
    have hB513 := hB496.ch hc507 (fun (h : b493 = rv) => by have := hlo499; have := hS.rd.lt; omega)
    refine x_heldB hc507 iZ ?_
    obtain ⟨x514, s515, hN516⟩ : ∃ x s', numR (H) s504 = (x, s') := ⟨_, _, rfl⟩
    have hbd519 := numR_bd (lim := H) (s := s504)
    rw [hN516] at hbd519
    dsimp only at hbd519
    refine yH 11 (yQ (num_any (lim := H) hA506 hN516 (by omega)) ?_)
    rintro w520 ⟨hA517, hc518⟩
    have hX521 : Ch (srB sr rv) w w520 := Ch.trans hX510 hc518 (fun _ _ h => .inr h)
    have hB522 := hB511.ch hc518 hS.ne
    have hB523 := hB512.ch hc518 (fun (h : b11 = rv) => by have := hlo17; have := hS.rd.lt; omega)
    have hB524 := hB513.ch hc518 (fun (h : b493 = rv) => by have := hlo499; have := hS.rd.lt; omega)
    refine x_heldB hc518 iZ ?_
    obtain ⟨x525, s526, hN527⟩ : ∃ x s', numR (2) s515 = (x, s') := ⟨_, _, rfl⟩
    have hbd530 := numR_bd (lim := 2) (s := s515)
    rw [hN527] at hbd530
    dsimp only at hbd530
    refine yK 16 (yQ (num_any (lim := 2) hA517 hN527 (by omega)) ?_)
    rintro w531 ⟨hA528, hc529⟩
    have hX532 : Ch (srB sr rv) w w531 := Ch.trans hX521 hc529 (fun _ _ h => .inr h)
    have hB533 := hB522.ch hc529 hS.ne
    have hB534 := hB523.ch hc529 (fun (h : b11 = rv) => by have := hlo17; have := hS.rd.lt; omega)
    have hB535 := hB524.ch hc529 (fun (h : b493 = rv) => by have := hlo499; have := hS.rd.lt; omega)
    refine x_killed ?_
    refine yd [17, 18] [] .z ?_
    refine yK 20 (yS hB535 fun w536 hB537 hc538 => ?_)
    have hX539 : Ch (srB sr rv) w w536 := Ch.trans hX532 hc538 (fun i hi (h : i = b493) => by have := hlo499; omega)
    have hB540 := hB533.ch hc538 (fun (h : sr = b493) => by have := hlo499; have := hS.blk.lt; omega)
    have hB541 := hB534.ch hc538 (fun (h : b11 = b493) => by have := hB26.lt; omega)
    have hA542 := hA528.ch hc538 (fun (h : rv = b493) => by have := hlo499; have := hS.rd.lt; omega) (fun (h : D = b493) => by have := hlo499; have := hS.rd.dlt; omega)
    replace hB537 : Blk w536 b493 [iX x503, iX x514, .bool ((x525 : Int) == 1), .bool false, .bool false, .bool false, iX 0, iX 0] _ := Blk.to hB537 (by kernel_rfl)
    refine x_killed ?_
    refine yDe (nS ?_)
    refine ysr ?_
    refine yp 4 [] (.l (hB540.c 0) .z) ?_
    obtain ⟨t543, ok544, s545, hN546⟩ : ∃ t ok s', styR s526 = (t, ok, s') := ⟨_, _, _, rfl⟩
    refine yo (yQ (takeStyle_any hA542 hN546) ?_)
    rintro w549 ⟨hA547, hc548⟩
    have hX550 : Ch (srB sr rv) w w549 := Ch.trans hX539 hc548 (fun _ _ h => .inr h)
    have hB551 := hB540.ch hc548 hS.ne
    have hB552 := hB541.ch hc548 (fun (h : b11 = rv) => by have := hlo17; have := hS.rd.lt; omega)
    have hB553 := hB537.ch hc548 (fun (h : b493 = rv) => by have := hlo499; have := hS.rd.lt; omega)
    refine yp 8 [] .z ?_
    refine yo (yN [.bool false, .bool false, .bool false, iX 0, iX 0] 30 fun w554 b555 hb556 hz557 hB558 hc559 => ?_)
    have hX560 : Ch (srB sr rv) w w554 := Ch.trans hX550 hc559 eZ
    have hlo561 : w.heap.size ≤ b555 := by rw [hb556]; exact Ch.size hX550
    have hB562 := hB551.ch hc559 id
    have hB563 := hB552.ch hc559 id
    have hB564 := hB553.ch hc559 id
    have hA565 := hA547.ch hc559 id id
    refine yo (yS hB558 fun w566 hB567 hc568 => ?_)
    have hX569 : Ch (srB sr rv) w w566 := Ch.trans hX560 hc568 (fun i hi (h : i = b555) => by have := hlo561; omega)
    have hB570 := hB562.ch hc568 (fun (h : sr = b555) => by have := hlo561; have := hS.blk.lt; omega)
    have hB571 := hB563.ch hc568 (fun (h : b11 = b555) => by have := hB552.lt; omega)
    have hB572 := hB564.ch hc568 (fun (h : b493 = b555) => by have := hB553.lt; omega)
    have hA573 := hA565.ch hc568 (fun (h : rv = b555) => by have := hlo561; have := hS.rd.lt; omega) (fun (h : D = b555) => by have := hlo561; have := hS.rd.dlt; omega)
    replace hB567 : Blk w566 b555 [.bool t543.bold, .bool t543.under, .bool t543.turned, iX t543.fore, iX t543.back] _ := Blk.to hB567 (by kernel_rfl)
    refine yp 11 [] .z ?_
    refine ye ?_
    refine ysr ?_
    refine yp 2 [] (.a (hB567.cs 0 5) .z) ?_
    refine yo (yS hB572 fun w574 hB575 hc576 => ?_)
    have hX577 : Ch (srB sr rv) w w574 := Ch.trans hX569 hc576 (fun i hi (h : i = b493) => by have := hlo499; omega)
    have hB578 := hB570.ch hc576 (fun (h : sr = b493) => by have := hlo499; have := hS.blk.lt; omega)
    have hB579 := hB571.ch hc576 (fun (h : b11 = b493) => by have := hB26.lt; omega)
    have hA580 := hA573.ch hc576 (fun (h : rv = b493) => by have := hlo499; have := hS.rd.lt; omega) (fun (h : D = b493) => by have := hlo499; have := hS.rd.dlt; omega)
    replace hB575 : Blk w574 b493 [iX x503, iX x514, .bool ((x525 : Int) == 1), .bool t543.bold, .bool t543.under, .bool t543.turned, iX t543.fore, iX t543.back] _ := Blk.to hB575 (by kernel_rfl)
    refine ye ?_
    refine ysr ?_
    refine yp 6 [] (.l (hB578.c 1) .z) ?_
    refine yw [44] (rY fine) (fun hC582 => ?_) fun hC582 => ?_
    · have hf583 := hC582
      refine yp 9 [] .z ?_
      refine yw [47] (rY ok544) (fun hC584 => ?_) fun hC584 => ?_
      · have hf585 := hC584
        refine yp 13 [] (.l (hB575.c 2) .z) ?_
        refine yw [51] (rN (rE x525 1)) (fun hC586 => ?_) fun hC586 => ?_
        · have hf587 := hC586
          refine yp 22 [] .z ?_
          refine yo (yS hB578 fun w588 hB589 hc590 => ?_)
          have hX591 : Ch (srB sr rv) w w588 := Ch.trans hX577 hc590 (fun _ _ h => .inl h)
          have hB592 := hB579.ch hc590 (fun (h : b11 = sr) => by have := hlo17; have := hS.blk.lt; omega)
          have hA593 := hA580.ch hc590 (fun h => hS.ne h.symm) (fun h => hS.nd h.symm)
          have hB595 := hB575.ch hc590 (fun (h : b493 = sr) => by have := hlo499; have := hS.blk.lt; omega)
          replace hB589 : Blk w588 sr [pX rv, .bool true] _ := Blk.to hB589 (by kernel_rfl)
          refine ye ?_
          refine ysr ?_
          refine yp 1 [] (.a (hB595.cs 0 8) .z) ?_
          refine yo (yS hB592 fun w596 hB597 hc598 => ?_)
          have hX599 : Ch (srB sr rv) w w596 := Ch.trans hX591 hc598 (fun i hi (h : i = b11) => by have := hlo17; omega)
          have hA600 := hA593.ch hc598 (fun (h : rv = b11) => by have := hlo17; have := hS.rd.lt; omega) (fun (h : D = b11) => by have := hlo17; have := hS.rd.dlt; omega)
          have hB603 := hB589.ch hc598 (fun (h : sr = b11) => by have := hlo17; have := hS.blk.lt; omega)
          replace hB597 : Blk w596 b11 [iX x503, iX x514, .bool ((x525 : Int) == 1), .bool t543.bold, .bool t543.under, .bool t543.turned, iX t543.fore, iX t543.back] _ := Blk.to hB597 (by kernel_rfl)
          refine ye ?_
          refine x_ret (yR1c (.agg #[iX x503, iX x514, .bool ((x525 : Int) == 1), .bool t543.bold, .bool t543.under, .bool t543.turned, iX t543.fore, iX t543.back]) (.a (hB597.cs 0 8) .z) ?_)
          rw [curR_eq hN505 hN516 hN527 hN546] at hC
          simp only [Prod.mk.injEq] at hC
          obtain ⟨rfl, rfl, rfl⟩ := hC
          have hb604 : true = (fine && (ok544 && (!(x525 == 1) || x503 == W - 1))) := by simp [hf583, hf585, hf587]
          exact ⟨rfl, ⟨by rw [← hb604]; exact hB603, hA600, hS.ne, hS.nd⟩, hX599⟩
        · have hf605 := hC586
          refine yp 22 [] (.l (hB575.c 0) (.q6 (W - 1) .z)) ?_
          refine yo (yS hB578 fun w606 hB607 hc608 => ?_)
          have hX609 : Ch (srB sr rv) w w606 := Ch.trans hX577 hc608 (fun _ _ h => .inl h)
          have hB610 := hB579.ch hc608 (fun (h : b11 = sr) => by have := hlo17; have := hS.blk.lt; omega)
          have hA611 := hA580.ch hc608 (fun h => hS.ne h.symm) (fun h => hS.nd h.symm)
          have hB613 := hB575.ch hc608 (fun (h : b493 = sr) => by have := hlo499; have := hS.blk.lt; omega)
          replace hB607 : Blk w606 sr [pX rv, .bool ((x503 : Int) == (W - 1))] _ := Blk.to hB607 (by kernel_rfl)
          refine ye ?_
          refine ysr ?_
          refine yp 1 [] (.a (hB613.cs 0 8) .z) ?_
          refine yo (yS hB610 fun w614 hB615 hc616 => ?_)
          have hX617 : Ch (srB sr rv) w w614 := Ch.trans hX609 hc616 (fun i hi (h : i = b11) => by have := hlo17; omega)
          have hA618 := hA611.ch hc616 (fun (h : rv = b11) => by have := hlo17; have := hS.rd.lt; omega) (fun (h : D = b11) => by have := hlo17; have := hS.rd.dlt; omega)
          have hB621 := hB607.ch hc616 (fun (h : sr = b11) => by have := hlo17; have := hS.blk.lt; omega)
          replace hB615 : Blk w614 b11 [iX x503, iX x514, .bool ((x525 : Int) == 1), .bool t543.bold, .bool t543.under, .bool t543.turned, iX t543.fore, iX t543.back] _ := Blk.to hB615 (by kernel_rfl)
          refine ye ?_
          refine x_ret (yR1c (.agg #[iX x503, iX x514, .bool ((x525 : Int) == 1), .bool t543.bold, .bool t543.under, .bool t543.turned, iX t543.fore, iX t543.back]) (.a (hB615.cs 0 8) .z) ?_)
          rw [curR_eq hN505 hN516 hN527 hN546] at hC
          simp only [Prod.mk.injEq] at hC
          obtain ⟨rfl, rfl, rfl⟩ := hC
          have hb622 : ((x503 : Int) == (W - 1)) = (fine && (ok544 && (!(x525 == 1) || x503 == W - 1))) := by simp [hf583, hf585, hf605]
          exact ⟨rfl, ⟨by rw [← hb622]; exact hB621, hA618, hS.ne, hS.nd⟩, hX617⟩
      · have hf623 := hC584
        refine yp 22 [] .z ?_
        refine yo (yS hB578 fun w624 hB625 hc626 => ?_)
        have hX627 : Ch (srB sr rv) w w624 := Ch.trans hX577 hc626 (fun _ _ h => .inl h)
        have hB628 := hB579.ch hc626 (fun (h : b11 = sr) => by have := hlo17; have := hS.blk.lt; omega)
        have hA629 := hA580.ch hc626 (fun h => hS.ne h.symm) (fun h => hS.nd h.symm)
        have hB631 := hB575.ch hc626 (fun (h : b493 = sr) => by have := hlo499; have := hS.blk.lt; omega)
        replace hB625 : Blk w624 sr [pX rv, .bool false] _ := Blk.to hB625 (by kernel_rfl)
        refine ye ?_
        refine ysr ?_
        refine yp 1 [] (.a (hB631.cs 0 8) .z) ?_
        refine yo (yS hB628 fun w632 hB633 hc634 => ?_)
        have hX635 : Ch (srB sr rv) w w632 := Ch.trans hX627 hc634 (fun i hi (h : i = b11) => by have := hlo17; omega)
        have hA636 := hA629.ch hc634 (fun (h : rv = b11) => by have := hlo17; have := hS.rd.lt; omega) (fun (h : D = b11) => by have := hlo17; have := hS.rd.dlt; omega)
        have hB639 := hB625.ch hc634 (fun (h : sr = b11) => by have := hlo17; have := hS.blk.lt; omega)
        replace hB633 : Blk w632 b11 [iX x503, iX x514, .bool ((x525 : Int) == 1), .bool t543.bold, .bool t543.under, .bool t543.turned, iX t543.fore, iX t543.back] _ := Blk.to hB633 (by kernel_rfl)
        refine ye ?_
        refine x_ret (yR1c (.agg #[iX x503, iX x514, .bool ((x525 : Int) == 1), .bool t543.bold, .bool t543.under, .bool t543.turned, iX t543.fore, iX t543.back]) (.a (hB633.cs 0 8) .z) ?_)
        rw [curR_eq hN505 hN516 hN527 hN546] at hC
        simp only [Prod.mk.injEq] at hC
        obtain ⟨rfl, rfl, rfl⟩ := hC
        have hb640 : false = (fine && (ok544 && (!(x525 == 1) || x503 == W - 1))) := by simp [hf583, hf623]
        exact ⟨rfl, ⟨by rw [← hb640]; exact hB639, hA636, hS.ne, hS.nd⟩, hX635⟩
    · have hf641 := hC582
      refine yp 22 [] .z ?_
      refine yo (yS hB578 fun w642 hB643 hc644 => ?_)
      have hX645 : Ch (srB sr rv) w w642 := Ch.trans hX577 hc644 (fun _ _ h => .inl h)
      have hB646 := hB579.ch hc644 (fun (h : b11 = sr) => by have := hlo17; have := hS.blk.lt; omega)
      have hA647 := hA580.ch hc644 (fun h => hS.ne h.symm) (fun h => hS.nd h.symm)
      have hB649 := hB575.ch hc644 (fun (h : b493 = sr) => by have := hlo499; have := hS.blk.lt; omega)
      replace hB643 : Blk w642 sr [pX rv, .bool false] _ := Blk.to hB643 (by kernel_rfl)
      refine ye ?_
      refine ysr ?_
      refine yp 1 [] (.a (hB649.cs 0 8) .z) ?_
      refine yo (yS hB646 fun w650 hB651 hc652 => ?_)
      have hX653 : Ch (srB sr rv) w w650 := Ch.trans hX645 hc652 (fun i hi (h : i = b11) => by have := hlo17; omega)
      have hA654 := hA647.ch hc652 (fun (h : rv = b11) => by have := hlo17; have := hS.rd.lt; omega) (fun (h : D = b11) => by have := hlo17; have := hS.rd.dlt; omega)
      have hB657 := hB643.ch hc652 (fun (h : sr = b11) => by have := hlo17; have := hS.blk.lt; omega)
      replace hB651 : Blk w650 b11 [iX x503, iX x514, .bool ((x525 : Int) == 1), .bool t543.bold, .bool t543.under, .bool t543.turned, iX t543.fore, iX t543.back] _ := Blk.to hB651 (by kernel_rfl)
      refine ye ?_
      refine x_ret (yR1c (.agg #[iX x503, iX x514, .bool ((x525 : Int) == 1), .bool t543.bold, .bool t543.under, .bool t543.turned, iX t543.fore, iX t543.back]) (.a (hB651.cs 0 8) .z) ?_)
      rw [curR_eq hN505 hN516 hN527 hN546] at hC
      simp only [Prod.mk.injEq] at hC
      obtain ⟨rfl, rfl, rfl⟩ := hC
      have hb658 : false = (fine && (ok544 && (!(x525 == 1) || x503 == W - 1))) := by simp [hf641]
      exact ⟨rfl, ⟨by rw [← hb658]; exact hB657, hA654, hS.ne, hS.nd⟩, hX653⟩
set_option maxHeartbeats 4000000 in
theorem linesR_any {sr rv D : Nat} {s0 s1 : RS} {fine f1 : Bool} {w : World} (hS : SrIn w sr rv D fine s0) {W H : Int} {LL : List (List Cel)} (hT : Tables w) (hr7 : gTop ≤ rv) (hs7 : gTop ≤ sr) (hW : 0 ≤ W ∧ W ≤ 60) (hH : 0 ≤ H ∧ H ≤ 1000) (hL : linesF W H.toNat [] s0 fine = (LL, s1, f1)) : Calls Tryd.prog 14 [pX sr, iX W, iX H].toArray w fun e w' =>
    ∃ o n cap rows, e = .returned (.slice (o.map at0) n cap) ∧ OutO w' w.heap.size o n cap rows ∧ rows.map RowO.l = LL ∧ SrIn w' sr rv D f1 s1 ∧ Ch (srB sr rv) w w' := by
  refine yA Tryd.func14 rfl ?_
  refine ysr ?_
  refine yp 1 [] .z ?_
  refine ye ?_
  refine ysr ?_
  refine yp 1 [] .z ?_
  refine ye ?_
  refine ys ?_
  refine ysr ?_
  refine yp 2 [] .z ?_
  refine ye ?_
  refine x_block ?_
  refine ykeep [0, 1, 7, 10, 11] (f' := [(0, pX sr), (1, iX W), (7, .slice none 0 0), (10, iX H), (11, iX 0)]) ?_
  refine x_loop (σ := Nat × List RowO × Option Nat × Nat × Nat × RS × Bool) (fun ⟨k, rows, o, n, cap, s, f⟩ => [(0, pX sr), (1, iX W), (7, .slice (o.map at0) n cap), (10, iX H), (11, iX ((k : Nat) : Int))]) (fun ⟨k, rows, o, n, cap, s, f⟩ u => k ≤ H.toNat ∧ linesF W (H.toNat - k) (rows.map RowO.l) s f = linesF W H.toNat [] s0 fine ∧ OutO u w.heap.size o n cap rows ∧ rows.length = k ∧ Blk u sr [pX rv, .bool f] tSr ∧ RdrAt u rv D s ∧ Ch (srB sr rv) w u) (fun ⟨k, rows, o, n, cap, s, f⟩ => H.toNat - k) (0, [], none, 0, 0, s0, fine) rfl ?_ ?_
  · exact ⟨Nat.zero_le _, rfl, OutO.nil _ _, rfl, hS.blk, hS.rd, Ch.refl _ _⟩
  · intro p w10 hI11 K12 hL13
    obtain ⟨k, rows, o, n, cap, s, f⟩ := p
    obtain ⟨hk, hG, hO, hrk, hB, hR, hcx⟩ := hI11
    have hnk := hO.len
    have hnc : n ≤ cap := hO.own.2.1
    refine ysr ?_
    refine yp 1 [] .z ?_
    refine ye ?_
    refine ys ?_
    refine yc (rL ((k : Nat) : Int) H) (fun hC14 => ?_) fun hC14 => ?_
    · have hkH := hC14
      have hkt : H.toNat - k = (H.toNat - (k + 1)) + 1 := by omega
      rw [hkt, linesF] at hG
      refine yk ?_
      refine ys ?_
      refine x_block ?_
      refine ysr ?_
      refine yp 5 [] (.l (hB.c 0) .z) ?_
      obtain ⟨l15, ok16, s17, hL18⟩ : ∃ l ok s', lineR W s = (l, ok, s') := ⟨_, _, _, rfl⟩
      refine yo (yC (takeLine_any hR (tables_ch hcx hT (fun h => h.elim (fun (h : gWide = sr) => by have := g_lt; omega) (fun (h : gWide = rv) => by have := g_lt; omega)) (fun h => h.elim (fun (h : gSigns = sr) => by have := g_lt; omega) (fun (h : gSigns = rv) => by have := g_lt; omega))) hr7 ⟨by omega, by omega⟩ hL18) ?_)
      rintro _ w28 ⟨o19, n20, cap21, rfl, hln22, hO23, hlo24, hA25, hc26⟩
      refine ⟨_, rfl, ?_⟩
      have hlo29 : ∀ b, o19 = some b → w.heap.size ≤ b := fun b e => Nat.le_trans (Ch.size hcx) (hlo24 b e)
      have hne30 : ∀ z ∈ rows, ∀ b, z.b = some b → o19 ≠ some b := fun z hz b hb e => by have := hO.rs.lt z hz b hb; have := hlo24 b e; omega
      have hX31 : Ch (srB sr rv) w w28 := Ch.trans hcx hc26 (fun _ _ h => .inr h)
      have hB32 := hB.ch hc26 hS.ne
      have hO33 := hO.ch hc26 (fun b hb hl (h : b = rv) => by have := hS.rd.lt; omega)
      refine yp 11 [] .z ?_
      refine ye ?_
      refine ysr ?_
      refine yp 6 [] (.l (hB32.c 1) .z) ?_
      refine yw [27] (rY f) (fun hC34 => ?_) fun hC34 => ?_
      · have hff := hC34
        refine yp 10 [] .z ?_
        refine yo (yS hB32 fun w35 hB36 hc37 => ?_)
        have hX38 : Ch (srB sr rv) w w35 := Ch.trans hX31 hc37 (fun _ _ h => .inl h)
        have hO39 := hO33.ch hc37 (fun b hb hl (h : b = sr) => by have := hS.blk.lt; omega)
        have hA40 := hA25.ch hc37 (fun h => hS.ne h.symm) (fun h => hS.nd h.symm)
        have hN41 := hO23.ch hc37 (fun b e (h : b = sr) => by have := hlo29 b e; have := hS.blk.lt; omega)
        replace hB36 : Blk w35 sr [pX rv, .bool ok16] _ := Blk.to hB36 (by kernel_rfl)
        refine ye ?_
        refine ys ?_
        refine ysr ?_
        refine yp 5 [] (.l (hB36.c 1) .z) ?_
        refine ye ?_
        refine yc (rN (rY ok16)) (fun hC42 => ?_) fun hC42 => ?_
        · have hokk := hC42
          refine ysr ?_
          refine yp 1 [] .z ?_
          refine ye ?_
          refine x_ret (rS (rB (rS (then_ret (rB (rS (yR1 (.slice none 0 0) ?_)))))))
          rw [hL18] at hG
          rw [if_neg (by rw [hokk]; simp)] at hG
          rw [hL] at hG
          simp only [Prod.mk.injEq] at hG
          obtain ⟨rfl, rfl, rfl⟩ := hG
          exact ⟨none, 0, 0, [], rfl, OutO.nil _ _, rfl, ⟨(by rw [← hokk]; exact hB36), hA40, hS.ne, hS.nd⟩, hX38⟩
        · have hokk := hC42
          refine yk ?_
          refine x_region ?_
          refine yp 2 [] .z ?_
          refine yo (yB [.slice (o19.map at0) n20 cap21] 48 1 fun w43 b44 hb45 hz46 hB47 hc48 => ?_)
          have hX49 : Ch (srB sr rv) w w43 := Ch.trans hX38 hc48 eZ
          have hlo50 : w.heap.size ≤ b44 := by rw [hb45]; exact Ch.size hX38
          have hO51 := hO39.ch hc48 (fun _ _ _ h => h)
          have hA52 := hA40.ch hc48 id id
          have hN53 := hN41.ch hc48 iZ
          have hB54 := hB36.ch hc48 id
          refine yo (e_app' 48 1 24 o n cap (rows.map RowO.val) (some ⟨b44, 0, none⟩) 1 1 [RowO.val (RowO.mk o19 n20 cap21 l15)] (some 40) (n + 1) rfl ((rows ++ [(RowO.mk o19 n20 cap21 l15)]).map RowO.val) (by rw [List.map_append]; rfl) (by kernel_rfl) hO51.own (Rd.all hB47) rfl rfl (fun h => by cases h) (by constructor <;> first | omega | (simp only [maxLen]; omega)) ?_)
          intro w55 og56 cp57 hO58 hne59 hpos60 hc61
          have hA62 := App.of hne59 hc61
          have hQ63 := hO51.app (RowsO.one hN53 hln22 hlo29) (Ch.size hX49) (fun x hx y hy b e => by rw [List.mem_singleton.1 hy]; exact hne30 x hx b e) hO58 hA62
          have hX65 : Ch (srB sr rv) w w55 := Ch.trans hX49 hc61 (fun i hi h => by have := hO51.lo _ h; omega)
          have hA66 := hA52.ch hc61 (fun h => by have := hO51.lo _ h; have := hS.rd.lt; omega) (fun h => by have := hO51.lo _ h; have := hS.rd.dlt; omega)
          have hB67 := hB54.ch hc61 (fun h => by have := hO51.lo _ h; have := hS.blk.lt; omega)
          refine yp 5 [] .z ?_
          refine yE (nB (nS ?_))
          refine x_region ?_
          refine yp 2 [] (.q6 (((k : Nat) : Int) + 1) .z) ?_
          rw [hL18] at hG
          rw [if_pos (by rw [hff, hokk]; rfl)] at hG
          have hm2 : ((rows ++ [(RowO.mk o19 n20 cap21 l15)])).map RowO.l = rows.map RowO.l ++ [l15] := by rw [List.map_append]; rfl
          refine yE (fun a ha => hL13 (k + 1, (rows ++ [(RowO.mk o19 n20 cap21 l15)]), og56, (n + 1), cp57, s17, true) _ ⟨by omega, by rw [hm2]; exact hG, hQ63, by rw [List.length_append, hrk]; rfl, by rw [← hokk]; exact hB67, hA66, hX65⟩ (by show H.toNat - (k + 1) < H.toNat - k; omega) a (ha.kp [0, 1, 7, 10, 11]))
      · have hff := hC34
        refine yp 10 [] .z ?_
        refine yo (yS hB32 fun w68 hB69 hc70 => ?_)
        have hX71 : Ch (srB sr rv) w w68 := Ch.trans hX31 hc70 (fun _ _ h => .inl h)
        have hA73 := hA25.ch hc70 (fun h => hS.ne h.symm) (fun h => hS.nd h.symm)
        replace hB69 : Blk w68 sr [pX rv, .bool false] _ := Blk.to hB69 (by kernel_rfl)
        refine ye ?_
        refine ys ?_
        refine ysr ?_
        refine yp 5 [] (.l (hB69.c 1) .z) ?_
        refine ye ?_
        refine yct ?_
        refine ysr ?_
        refine yp 1 [] .z ?_
        refine ye ?_
        refine x_ret (rS (rB (rS (then_ret (rB (rS (yR1 (.slice none 0 0) ?_)))))))
        rw [hL18] at hG
        rw [if_neg (by rw [hff]; simp)] at hG
        rw [hL] at hG
        simp only [Prod.mk.injEq] at hG
        obtain ⟨rfl, rfl, rfl⟩ := hG
        exact ⟨none, 0, 0, [], rfl, OutO.nil _ _, rfl, ⟨hB69, hA73, hS.ne, hS.nd⟩, hX71⟩
    · have hkH := hC14
      have hkt : H.toNat - k = 0 := by omega
      rw [hkt, linesF] at hG
      refine x_exit (eS (then_exit (block_exit (nS ?_))))
      refine ysr ?_
      refine yp 2 [] .z ?_
      refine ye ?_
      refine x_ret (yR1 (.slice (o.map at0) n cap) ?_)
      rw [hL] at hG
      simp only [Prod.mk.injEq] at hG
      obtain ⟨rfl, rfl, rfl⟩ := hG
      exact ⟨o, n, cap, rows, rfl, hO, rfl, ⟨hB, hR, hS.ne, hS.nd⟩, hcx⟩
theorem linesF_le {W : Int} : ∀ {k : Nat} {out L : List (List Cel)} {s s' : RS} {f f' : Bool}, linesF W k out s f = (L, s', f') → L.length ≤ out.length + k
  | 0, out, L, s, s', f, f', h => by simp only [linesF, Prod.mk.injEq] at h; rw [h.1]; exact Nat.le_refl _
  | k + 1, out, L, s, s', f, f', h => by
    rw [linesF] at h
    split at h
    · have := linesF_le h
      rw [List.length_append] at this
      simp only [List.length_cons, List.length_nil] at this
      omega
    · simp only [Prod.mk.injEq] at h
      rw [← h.1]; simp
set_option maxHeartbeats 4000000 in
theorem backR_any {sr rv D : Nat} {s0 s1 : RS} {fine f1 : Bool} {w : World} (hS : SrIn w sr rv D fine s0) {LL : List (List Cel)} (hT : Tables w) (hr7 : gTop ≤ rv) (hs7 : gTop ≤ sr) (hBk : backR s0 fine = (LL, s1, f1)) : Calls Tryd.prog 15 [pX sr].toArray w fun e w' =>
    ∃ o n cap rows, e = .returned (.slice (o.map at0) n cap) ∧ OutO w' w.heap.size o n cap rows ∧ rows.map RowO.l = LL ∧ SrIn w' sr rv D f1 s1 ∧ Ch (srB sr rv) w w' := by
  refine yA Tryd.func15 rfl ?_
  refine ysr ?_
  refine yp 1 [] .z ?_
  refine ye ?_
  refine ysr ?_
  refine yp 1 [] .z ?_
  refine ye ?_
  refine ys ?_
  refine ysr ?_
  refine yp 4 [] (.l (hS.blk.c 0) .z) ?_
  obtain ⟨x10, s11, hN12⟩ : ∃ x s', numR (21) s0 = (x, s') := ⟨_, _, rfl⟩
  have hbd15 := numR_bd (lim := 21) (s := s0)
  rw [hN12] at hbd15
  dsimp only at hbd15
  refine yo (yQ (num_any (lim := 21) hS.rd hN12 (by omega)) ?_)
  rintro w16 ⟨hA13, hc14⟩
  have hX17 : Ch (srB sr rv) w w16 := Ch.trans (Ch.refl (srB sr rv) w) hc14 (fun _ _ h => .inr h)
  have hB18 := hS.blk.ch hc14 hS.ne
  refine yp 6 [] .z ?_
  refine ye ?_
  refine x_block ?_
  refine ykeep [0, 3, 9, 10] (f' := [(0, pX sr), (3, .slice none 0 0), (9, iX x10), (10, iX 0)]) ?_
  refine x_loop (σ := Nat × List RowO × Option Nat × Nat × Nat × RS × Bool) (fun ⟨k, rows, o, n, cap, s, f⟩ => [(0, pX sr), (3, .slice (o.map at0) n cap), (9, iX x10), (10, iX ((k : Nat) : Int))]) (fun ⟨k, rows, o, n, cap, s, f⟩ u => k ≤ (x10 : Int).toNat ∧ backF ((x10 : Int).toNat - k) (rows.map RowO.l) s f = backF (x10 : Int).toNat [] s11 fine ∧ OutO u w.heap.size o n cap rows ∧ n ≤ k ∧ Blk u sr [pX rv, .bool f] tSr ∧ RdrAt u rv D s ∧ Ch (srB sr rv) w u) (fun ⟨k, rows, o, n, cap, s, f⟩ => (x10 : Int).toNat - k) (0, [], none, 0, 0, s11, fine) rfl ?_ ?_
  · exact ⟨Nat.zero_le _, rfl, OutO.nil _ _, Nat.le_refl _, hB18, hA13, hX17⟩
  · intro p w19 hI20 K21 hL22
    obtain ⟨k, rows, o, n, cap, s, f⟩ := p
    obtain ⟨hk, hG, hO, hnk, hB, hR, hcx⟩ := hI20
    have hnc : n ≤ cap := hO.own.2.1
    refine ysr ?_
    refine yp 1 [] .z ?_
    refine ye ?_
    refine ys ?_
    refine yc (rL ((k : Nat) : Int) x10) (fun hC23 => ?_) fun hC23 => ?_
    · have hkH := hC23
      have hkt : (x10 : Int).toNat - k = ((x10 : Int).toNat - (k + 1)) + 1 := by omega
      rw [hkt, backF] at hG
      refine yk ?_
      refine ys ?_
      refine x_block ?_
      refine ysr ?_
      refine yp 4 [] (.l (hB.c 0) .z) ?_
      obtain ⟨x24, s25, hN26⟩ : ∃ x s', numR (61) s = (x, s') := ⟨_, _, rfl⟩
      have hbd29 := numR_bd (lim := 61) (s := s)
      rw [hN26] at hbd29
      dsimp only at hbd29
      refine yo (yQ (num_any (lim := 61) hR hN26 (by omega)) ?_)
      rintro w30 ⟨hA27, hc28⟩
      have hX31 : Ch (srB sr rv) w w30 := Ch.trans hcx hc28 (fun _ _ h => .inr h)
      have hB32 := hB.ch hc28 hS.ne
      have hO33 := hO.ch hc28 (fun b hb hl (h : b = rv) => by have := hS.rd.lt; omega)
      refine yp 6 [] .z ?_
      refine ye ?_
      refine ysr ?_
      refine yp 3 [] .z ?_
      obtain ⟨ll34, s35, f36, hL37⟩ : ∃ l s' f', linesF x24 (1 : Int).toNat [] s25 f = (l, s', f') := ⟨_, _, _, rfl⟩
      refine yo (yC (linesR_any ⟨hB32, hA27, hS.ne, hS.nd⟩ (tables_ch hX31 hT (fun h => h.elim (fun (h : gWide = sr) => by have := g_lt; omega) (fun (h : gWide = rv) => by have := g_lt; omega)) (fun h => h.elim (fun (h : gSigns = sr) => by have := g_lt; omega) (fun (h : gSigns = rv) => by have := g_lt; omega))) hr7 hs7 (by omega) (by omega) hL37) ?_)
      rintro _ w46 ⟨o38, n39, cap40, rows41, rfl, hO42, hrl43, hS44, hc45⟩
      refine ⟨_, rfl, ?_⟩
      have hszc : w30.heap.size ≤ w46.heap.size := Ch.size hc45
      have hlnew : ∀ x ∈ rows, ∀ y ∈ rows41, ∀ b, x.b = some b → y.b ≠ some b := fun x hx y hy b e e' => by have := hO33.rs.lt x hx b e; have := hO42.rs.lo y hy b e'; omega
      have hlo47 := hO42.low (Ch.size hX31)
      have hX48 : Ch (srB sr rv) w w46 := Ch.trans hX31 hc45 iZ
      have hO49 := hO33.ch hc45 (fun b hb hl h => h.elim (fun (h : b = sr) => by have := hS.blk.lt; omega) (fun (h : b = rv) => by have := hS.rd.lt; omega))
      have hln1 := hlo47.len
      have hll1 := congrArg List.length hrl43
      rw [List.length_map, hln1] at hll1
      have hle1 : ll34.length ≤ 1 := by have h := linesF_le hL37; simpa using h
      refine yo (e_app' 48 1 24 o n cap (rows.map RowO.val) (o38.map at0) n39 cap40 (rows41.map RowO.val) (some 21) (n + n39) rfl ((rows ++ rows41).map RowO.val) (by rw [List.map_append]) (by kernel_rfl) hO49.own hlo47.own.rd (by rw [List.length_map, hln1, Nat.mul_one]) (rowO_one _) (fun h => by cases o38 with | none => exact (hlo47.own.2.2.2.1 rfl).2 | some b => cases h) (by constructor <;> first | omega | (simp only [maxLen]; omega)) ?_)
      intro w50 og51 cp52 hO53 hne54 hpos55 hc56
      have hA57 := App.of hne54 hc56
      have hQ58 := hO49.app hlo47.rs (Ch.size hX48) hlnew hO53 hA57
      have hX60 : Ch (srB sr rv) w w50 := Ch.trans hX48 hc56 (fun i hi h => by have := hO49.lo _ h; omega)
      have hA61 := hS44.rd.ch hc56 (fun h => by have := hO49.lo _ h; have := hS.rd.lt; omega) (fun h => by have := hO49.lo _ h; have := hS.rd.dlt; omega)
      have hB62 := hS44.blk.ch hc56 (fun h => by have := hO49.lo _ h; have := hS.blk.lt; omega)
      refine yp 6 [] .z ?_
      refine ye ?_
      refine ysr ?_
      refine yp 6 [] (.l (hB62.c 1) .z) ?_
      refine yw [27] (rY f36) (fun hC63 => ?_) fun hC63 => ?_
      · have hff := hC63
        refine yp 11 [] .z ?_
        refine yo (yS hB62 fun w64 hB65 hc66 => ?_)
        have hX67 : Ch (srB sr rv) w w64 := Ch.trans hX60 hc66 (fun _ _ h => .inl h)
        have hA68 := hA61.ch hc66 (fun h => hS.ne h.symm) (fun h => hS.nd h.symm)
        have hO69 := hQ58.ch hc66 (fun b hb hl (h : b = sr) => by have := hS.blk.lt; omega)
        replace hB65 : Blk w64 sr [pX rv, .bool (decide (0 < x24))] _ := Blk.to hB65 (by kernel_rfl)
        refine ye ?_
        refine ysr ?_
        refine yp 5 [] (.l (hB65.c 1) .z) ?_
        refine ye ?_
        refine yc (rN (rL 0 x24)) (fun hC70 => ?_) fun hC70 => ?_
        · have hbw := hC70
          refine ysr ?_
          refine yp 1 [] .z ?_
          refine ye ?_
          refine x_ret (rB (rS (then_ret (rB (rS (yR1 (.slice none 0 0) ?_))))))
          have hbk := hBk
          unfold backR at hbk
          rw [hN12] at hbk
          dsimp only at hbk
          rw [hN26] at hG
          dsimp only at hG
          rw [show linesF x24 1 [] _ _ = _ from hL37] at hG
          dsimp only at hG
          rw [if_neg (by rw [decide_eq_false hbw]; simp)] at hG
          rw [hbk] at hG
          simp only [Prod.mk.injEq] at hG
          obtain ⟨rfl, rfl, rfl⟩ := hG
          exact ⟨none, 0, 0, [], rfl, OutO.nil _ _, rfl, ⟨(by rw [← decide_eq_false hbw]; exact hB65), hA68, hS.ne, hS.nd⟩, hX67⟩
        · have hbw := hC70
          refine x_skip (nB (nS ?_))
          refine x_region ?_
          refine yp 2 [] (.q6 (((k : Nat) : Int) + 1) .z) ?_
          rw [hN26] at hG
          dsimp only at hG
          rw [show linesF x24 1 [] _ _ = _ from hL37] at hG
          dsimp only at hG
          rw [if_pos (by rw [hff, decide_eq_true hbw]; rfl)] at hG
          have hm2 : ((rows ++ rows41)).map RowO.l = rows.map RowO.l ++ ll34 := by rw [List.map_append, hrl43]
          refine yE (fun a ha => hL22 (k + 1, (rows ++ rows41), og51, (n + n39), cp52, s35, true) _ ⟨by omega, by rw [hm2]; exact hG, hO69, by omega, by rw [← decide_eq_true hbw]; exact hB65, hA68, hX67⟩ (by show (x10 : Int).toNat - (k + 1) < (x10 : Int).toNat - k; omega) a (ha.kp [0, 3, 9, 10]))
      · have hff := hC63
        refine yp 11 [] .z ?_
        refine yo (yS hB62 fun w71 hB72 hc73 => ?_)
        have hX74 : Ch (srB sr rv) w w71 := Ch.trans hX60 hc73 (fun _ _ h => .inl h)
        have hA75 := hA61.ch hc73 (fun h => hS.ne h.symm) (fun h => hS.nd h.symm)
        replace hB72 : Blk w71 sr [pX rv, .bool false] _ := Blk.to hB72 (by kernel_rfl)
        refine ye ?_
        refine ysr ?_
        refine yp 5 [] (.l (hB72.c 1) .z) ?_
        refine ye ?_
        refine yct ?_
        refine ysr ?_
        refine yp 1 [] .z ?_
        refine ye ?_
        refine x_ret (rB (rS (then_ret (rB (rS (yR1 (.slice none 0 0) ?_))))))
        have hbk := hBk
        unfold backR at hbk
        rw [hN12] at hbk
        dsimp only at hbk
        rw [hN26] at hG
        dsimp only at hG
        rw [show linesF x24 1 [] _ _ = _ from hL37] at hG
        dsimp only at hG
        rw [if_neg (by rw [hff]; simp)] at hG
        rw [hbk] at hG
        simp only [Prod.mk.injEq] at hG
        obtain ⟨rfl, rfl, rfl⟩ := hG
        exact ⟨none, 0, 0, [], rfl, OutO.nil _ _, rfl, ⟨hB72, hA75, hS.ne, hS.nd⟩, hX74⟩
    · have hkH := hC23
      have hkt : (x10 : Int).toNat - k = 0 := by omega
      rw [hkt, backF] at hG
      refine x_exit (eS (then_exit (block_exit (nS ?_))))
      refine ysr ?_
      refine yp 2 [] .z ?_
      refine ye ?_
      refine x_ret (yR1 (.slice (o.map at0) n cap) ?_)
      have hbk := hBk
      unfold backR at hbk
      rw [hN12] at hbk
      dsimp only at hbk
      rw [hbk] at hG
      simp only [Prod.mk.injEq] at hG
      obtain ⟨rfl, rfl, rfl⟩ := hG
      exact ⟨o, n, cap, rows, rfl, hO, rfl, ⟨hB, hR, hS.ne, hS.nd⟩, hcx⟩
end Go.Proofs.YtclnfbmmaofpjaaDoor.X
namespace Go.Proofs.YtclnfbmmaofpjaaDoor.X
open Go Go.RowKit Go.Proofs.YtclnfbmmaofpjaaDoor
abbrev tI : TypeId := 3
theorem put_mkU {l : List Int} (h : l.length ≤ 3) (c : Value) (r : List Value) : put (c :: uX 0 :: uX 0 :: uX 0 :: r) 1 (l.map (Value.int .u8)) = c :: uX (mkU l).b0 :: uX (mkU l).b1 :: uX (mkU l).b2 :: r := by
 match l, h with
 | [], _ => rfl
 | [a], _ => rfl
 | [a, b], _ => rfl
 | [a, b, c], _ => rfl
theorem bytV_bytI (x : ByteArray) : bytV x = (bytI x).map (Value.int .u8) := by
 unfold bytV bytI
 rw [List.map_map]; rfl
theorem mkU_n (x : ByteArray) : ((x.size : Nat) : Int) = (mkU (bytI x)).n := by
 show _ = (((bytI x).length : Nat) : Int)
 rw [bytI_len]
theorem textR_bd {most : Int} {s s' : RS} {x : ByteArray} (h : textR most s = (x, s')) (h0 : 0 < most) : (x.size : Int) ≤ most := by
 have hb := numR_bd (lim := most + 1) (s := s)
 unfold textR at h
 rw [if_pos h0] at h
 split at h
 ·simp only [Prod.mk.injEq] at h; rw [← h.1]; show (0 : Int) ≤ most; omega
 rename_i n ys e
 rw [e] at hb
 have h3 : n < most + 1 := hb.2.2 (by omega)
 have h4 : 0 ≤ n := hb.1
 split at h
 ·simp only [Prod.mk.injEq] at h; rw [← h.1]; show (0 : Int) ≤ most; omega
 simp only [Prod.mk.injEq] at h
 rw [← h.1, bytesOf_size, List.length_take]; omega
set_option maxHeartbeats 4000000 in
theorem parserR_any {sr rv D : Nat} {s0 s1 : RS} {fine f1 : Bool} {w : World} (hS : SrIn w sr rv D fine s0) {p : PS} (hU : UTabs w) (hr7 : gTop ≤ rv) (hs7 : gTop ≤ sr) (hP : parsR s0 fine = (p, s1, f1)) : Calls Tryd.prog 17 [pX sr].toArray w fun e w' =>
    ∃ o n cap, e = .returned (.agg (p.vals (.slice (o.map at0) n cap)).toArray) ∧ Own w' tI 1 o n cap (p.params.map (Value.int .i64)) ∧ (∀ b, o = some b → w.heap.size ≤ b) ∧ SrIn w' sr rv D f1 s1 ∧ Ch (srB sr rv) w w' := by
  refine yA Tryd.func17 rfl ?_
  refine ysr ?_
  refine yo (yN [iX 0, uX 0, uX 0, uX 0, iX 0, .string ByteArray.empty, .slice none 0 0, .string ByteArray.empty, iX 0] 41 fun w10 b11 hb12 hz13 hB14 hc15 => ?_)
  have hX16 : Ch (srB sr rv) w w10 := Ch.trans (Ch.refl (srB sr rv) w) hc15 eZ
  have hlo17 : w.heap.size ≤ b11 := by rw [hb12]; exact Ch.size (Ch.refl (srB sr rv) w)
  have hB18 := hS.blk.ch hc15 id
  have hA19 := hS.rd.ch hc15 id id
  refine ye ?_
  refine ys ?_
  refine x_drawnB (fun j => j = rv) [9, 12] (by kernel_rfl) (fun w20 hH21 hc22 => ?_)
  have hX23 : Ch (srB sr rv) w w20 := Ch.trans hX16 hc22 eZ
  have hB24 := hB18.ch hc22 id
  have hA25 := hA19.ch hc22 id id
  have hB26 := hB14.ch hc22 id
  refine ydC [0, 1, 2, 3, 5, 6, 7, 8] [] (fun u hu => (.l (cell_ch hu (hB24.c 0) hS.ne) (.l (cell_ch hu (hB24.c 0) hS.ne) .z))) ?_
  refine x_dtwo 4 11 (by kernel_rfl) (by decide) ?_ ?_
  · obtain ⟨x27, s28, hN29⟩ : ∃ x s', numR (8) s0 = (x, s') := ⟨_, _, rfl⟩
    have hbd32 := numR_bd (lim := 8) (s := s0)
    rw [hN29] at hbd32
    dsimp only at hbd32
    refine x_seff 4 _ (by kernel_rfl) rfl (yQ (num_any (lim := 8) hA25 hN29 (by omega)) ?_)
    rintro w33 ⟨hA30, hc31⟩
    have hX34 : Ch (srB sr rv) w w33 := Ch.trans hX23 hc31 (fun _ _ h => .inr h)
    have hB35 := hB24.ch hc31 hS.ne
    have hB36 := hB26.ch hc31 (fun (h : b11 = rv) => by have := hlo17; have := hS.rd.lt; omega)
    refine x_heldB hc31 iZ ?_
    refine x_dtwo 9 11 (by kernel_rfl) (by decide) ?_ ?_
    · obtain ⟨x37, s38, hN39⟩ : ∃ x s', numR (8) s28 = (x, s') := ⟨_, _, rfl⟩
      have hbd42 := numR_bd (lim := 8) (s := s28)
      rw [hN39] at hbd42
      dsimp only at hbd42
      refine x_skill 9 _ (by kernel_rfl) rfl (yQ (num_any (lim := 8) hA30 hN39 (by omega)) ?_)
      rintro w43 ⟨hA40, hc41⟩
      have hX44 : Ch (srB sr rv) w w43 := Ch.trans hX34 hc41 (fun _ _ h => .inr h)
      have hB45 := hB35.ch hc41 hS.ne
      have hB46 := hB36.ch hc41 (fun (h : b11 = rv) => by have := hlo17; have := hS.rd.lt; omega)
      refine x_killedB (B := fun j => j = rv) ?_
      refine ydC [10] [] (fun u hu => .z) ?_
      refine yH 11 (yN [iX 0, uX 0, uX 0, uX 0, iX 0, .string ByteArray.empty, .slice none 0 0, .string ByteArray.empty, iX 0] 41 fun w47 b48 hb49 hz50 hB51 hc52 => ?_)
      have hX53 : Ch (srB sr rv) w w47 := Ch.trans hX44 hc52 eZ
      have hlo54 : w.heap.size ≤ b48 := by rw [hb49]; exact Ch.size hX44
      have hB55 := hB45.ch hc52 id
      have hB56 := hB46.ch hc52 id
      have hA57 := hA40.ch hc52 id id
      refine x_heldB hc52 eZ ?_
      refine yK 12 (yS hB51 fun w58 hB59 hc60 => ?_)
      have hX61 : Ch (srB sr rv) w w58 := Ch.trans hX53 hc60 (fun i hi (h : i = b48) => by have := hlo54; omega)
      have hB62 := hB55.ch hc60 (fun (h : sr = b48) => by have := hlo54; have := hS.blk.lt; omega)
      have hB63 := hB56.ch hc60 (fun (h : b11 = b48) => by have := hB46.lt; omega)
      have hA64 := hA57.ch hc60 (fun (h : rv = b48) => by have := hlo54; have := hS.rd.lt; omega) (fun (h : D = b48) => by have := hlo54; have := hS.rd.dlt; omega)
      replace hB59 : Blk w58 b48 [iX x27, uX 0, uX 0, uX 0, iX 0, .string ByteArray.empty, .slice none 0 0, .string ByteArray.empty, iX x37] _ := Blk.to hB59 (by kernel_rfl)
      refine x_killed ?_
      refine yDe (nS ?_)
      refine ys ?_
      refine yD [7, 8, 11] fun w65 hH66 hc67 => ?_
      have hX68 : Ch (srB sr rv) w w65 := Ch.trans hX61 hc67 eZ
      have hB69 := hB62.ch hc67 id
      have hB70 := hB63.ch hc67 id
      have hA71 := hA64.ch hc67 id id
      have hB72 := hB59.ch hc67 id
      refine yd (uL 0 7) [] (.l (hB69.c 0) .z) ?_
      obtain ⟨x73, s74, hN75⟩ : ∃ x s', textR 3 s38 = (x, s') := ⟨_, _, rfl⟩
      refine yK 7 (yQ (text_anyR (most := 3) hA71 hN75 (by decide)) ?_)
      rintro w78 ⟨hA76, hc77⟩
      have hX79 : Ch (srB sr rv) w w78 := Ch.trans hX68 hc77 (fun _ _ h => .inr h)
      have hB80 := hB69.ch hc77 hS.ne
      have hB81 := hB70.ch hc77 (fun (h : b11 = rv) => by have := hlo17; have := hS.rd.lt; omega)
      have hB82 := hB72.ch hc77 (fun (h : b48 = rv) => by have := hlo54; have := hS.rd.lt; omega)
      have htb83 := textR_bd hN75 (by decide)
      refine x_killed ?_
      have hul : (bytI x73).length ≤ 3 := by rw [bytI_len]; omega
      refine yK 8 (e_copyS' b48 1 3 3 x73 (some 23) (mkU (bytI x73)).n (mkU_n x73) (by kernel_rfl) hB82 (by omega) (by simp only [List.length_cons, List.length_nil]; omega) ?_)
      intro w84 hB85 hc86
      rw [bytV_bytI, put_mkU hul] at hB85
      have hX87 : Ch (srB sr rv) w w84 := Ch.trans hX79 hc86 (fun i hi (h : i = b48) => by have := hlo54; omega)
      have hB88 := hB80.ch hc86 (fun (h : sr = b48) => by have := hlo54; have := hS.blk.lt; omega)
      have hB89 := hB81.ch hc86 (fun (h : b11 = b48) => by have := hB46.lt; omega)
      have hA90 := hA76.ch hc86 (fun (h : rv = b48) => by have := hlo54; have := hS.rd.lt; omega) (fun (h : D = b48) => by have := hlo54; have := hS.rd.dlt; omega)
      refine x_killed ?_
      refine yd [9, 10] [] .z ?_
      refine yK 11 (yS hB85 fun w91 hB92 hc93 => ?_)
      have hX94 : Ch (srB sr rv) w w91 := Ch.trans hX87 hc93 (fun i hi (h : i = b48) => by have := hlo54; omega)
      have hB95 := hB88.ch hc93 (fun (h : sr = b48) => by have := hlo54; have := hS.blk.lt; omega)
      have hB96 := hB89.ch hc93 (fun (h : b11 = b48) => by have := hB46.lt; omega)
      have hA97 := hA90.ch hc93 (fun (h : rv = b48) => by have := hlo54; have := hS.rd.lt; omega) (fun (h : D = b48) => by have := hlo54; have := hS.rd.dlt; omega)
      replace hB92 : Blk w91 b48 [iX x27, uX (mkU (bytI x73)).b0, uX (mkU (bytI x73)).b1, uX (mkU (bytI x73)).b2, iX (mkU (bytI x73)).n, .string ByteArray.empty, .slice none 0 0, .string ByteArray.empty, iX x37] _ := Blk.to hB92 (by kernel_rfl)
      refine x_killed ?_
      refine yDe (nS ?_)
      refine ysr ?_
      refine yp 4 [] (.l (hB95.c 0) .z) ?_
      obtain ⟨x98, s99, hN100⟩ : ∃ x s', textR 2 s74 = (x, s') := ⟨_, _, rfl⟩
      refine yo (yQ (text_anyR (most := 2) hA97 hN100 (by decide)) ?_)
      rintro w103 ⟨hA101, hc102⟩
      have hX104 : Ch (srB sr rv) w w103 := Ch.trans hX94 hc102 (fun _ _ h => .inr h)
      have hB105 := hB95.ch hc102 hS.ne
      have hB106 := hB96.ch hc102 (fun (h : b11 = rv) => by have := hlo17; have := hS.rd.lt; omega)
      have hB107 := hB92.ch hc102 (fun (h : b48 = rv) => by have := hlo54; have := hS.rd.lt; omega)
      have htb108 := textR_bd hN100 (by decide)
      refine yp 6 [] .z ?_
      refine yo (yS hB107 fun w109 hB110 hc111 => ?_)
      have hX112 : Ch (srB sr rv) w w109 := Ch.trans hX104 hc111 (fun i hi (h : i = b48) => by have := hlo54; omega)
      have hB113 := hB105.ch hc111 (fun (h : sr = b48) => by have := hlo54; have := hS.blk.lt; omega)
      have hB114 := hB106.ch hc111 (fun (h : b11 = b48) => by have := hB46.lt; omega)
      have hA115 := hA101.ch hc111 (fun (h : rv = b48) => by have := hlo54; have := hS.rd.lt; omega) (fun (h : D = b48) => by have := hlo54; have := hS.rd.dlt; omega)
      replace hB110 : Blk w109 b48 [iX x27, uX (mkU (bytI x73)).b0, uX (mkU (bytI x73)).b1, uX (mkU (bytI x73)).b2, iX (mkU (bytI x73)).n, .string x98, .slice none 0 0, .string ByteArray.empty, iX x37] _ := Blk.to hB110 (by kernel_rfl)
      refine ye ?_
      refine ys ?_
      refine ysr ?_
      refine yp 4 [] (.l (hB113.c 0) .z) ?_
      obtain ⟨x116, s117, hN118⟩ : ∃ x s', numR (9) s99 = (x, s') := ⟨_, _, rfl⟩
      have hbd121 := numR_bd (lim := 9) (s := s99)
      rw [hN118] at hbd121
      dsimp only at hbd121
      refine yo (yQ (num_any (lim := 9) hA115 hN118 (by omega)) ?_)
      rintro w122 ⟨hA119, hc120⟩
      have hX123 : Ch (srB sr rv) w w122 := Ch.trans hX112 hc120 (fun _ _ h => .inr h)
      have hB124 := hB113.ch hc120 hS.ne
      have hB125 := hB114.ch hc120 (fun (h : b11 = rv) => by have := hlo17; have := hS.rd.lt; omega)
      have hB126 := hB110.ch hc120 (fun (h : b48 = rv) => by have := hlo54; have := hS.rd.lt; omega)
      refine yp 6 [] .z ?_
      refine ye ?_
      refine x_block ?_
      refine ykeep [0, 2, 3, 36, 37] (f' := [(0, pX sr), (2, pX b11), (3, pX b48), (36, iX x116), (37, iX 0)]) ?_
      refine x_loop (σ := Nat × List Int × Option Nat × Nat × Nat × RS) (fun ⟨k, l, o, n, cap, s⟩ => [(0, pX sr), (2, pX b11), (3, pX b48), (36, iX x116), (37, iX ((k : Nat) : Int))]) (fun ⟨k, l, o, n, cap, s⟩ u => k ≤ (x116 : Int).toNat ∧ numsF ((x116 : Int).toNat - k) l s = numsF (x116 : Int).toNat [] s117 ∧ Own u tI 1 o n cap (l.map (Value.int .i64)) ∧ (∀ b, o = some b → w.heap.size ≤ b) ∧ (∀ b, o = some b → ¬ b = b48) ∧ (∀ b, o = some b → ¬ b = b11) ∧ n ≤ k ∧ Blk u sr [pX rv, .bool fine] tSr ∧ Blk u b48 [iX x27, uX (mkU (bytI x73)).b0, uX (mkU (bytI x73)).b1, uX (mkU (bytI x73)).b2, iX (mkU (bytI x73)).n, .string x98, .slice (o.map at0) n cap, .string ByteArray.empty, iX x37] 41 ∧ Blk u b11 [iX 0, uX 0, uX 0, uX 0, iX 0, .string ByteArray.empty, .slice none 0 0, .string ByteArray.empty, iX 0] 41 ∧ RdrAt u rv D s ∧ Ch (srB sr rv) w u) (fun ⟨k, l, o, n, cap, s⟩ => (x116 : Int).toNat - k) (0, [], none, 0, 0, s117) rfl ?_ ?_
      · exact ⟨Nat.zero_le _, rfl, Own.nil _ _ _, (fun b e => by cases e), (fun b e => by cases e), (fun b e => by cases e), Nat.le_refl _, hB124, hB126, hB125, hA119, hX123⟩
      · intro p w127 hI128 K129 hL130
        obtain ⟨k, l, o, n, cap, s⟩ := p
        obtain ⟨hk, hG, hO, hlo, hne3, hne2, hnk, hB, hB3, hB2, hR, hcx⟩ := hI128
        have hnc : n ≤ cap := hO.2.1
        have hll : l.length = n := by have h := hO.1; simpa using h
        refine ysr ?_
        refine yp 1 [] .z ?_
        refine ye ?_
        refine ys ?_
        refine yc (rL ((k : Nat) : Int) x116) (fun hC131 => ?_) fun hC131 => ?_
        · have hkH := hC131
          have hkt : (x116 : Int).toNat - k = ((x116 : Int).toNat - (k + 1)) + 1 := by omega
          rw [hkt, numsF] at hG
          refine yk ?_
          refine ys ?_
          refine x_block ?_
          refine x_drawnB (fun j => j = rv) [8, 10] (by kernel_rfl) (fun w132 hH133 hc134 => ?_)
          have hX135 : Ch (srB sr rv) w w132 := Ch.trans hcx hc134 eZ
          have hB136 := hB.ch hc134 id
          have hB137 := hB2.ch hc134 id
          have hB138 := hB3.ch hc134 id
          have hA139 := hR.ch hc134 id id
          have hO140 := hO.ch hc134 iZ
          refine ydC (uL 0 6) [] (fun u hu => (.l (cell_ch hu (hB138.c 6) (fun (h : b48 = rv) => by have := hlo54; have := hS.rd.lt; omega)) (.l (cell_ch hu (hB136.c 0) hS.ne) .z))) ?_
          obtain ⟨x141, s142, hN143⟩ : ∃ x s', numR (10000) s = (x, s') := ⟨_, _, rfl⟩
          have hbd146 := numR_bd (lim := 10000) (s := s)
          rw [hN143] at hbd146
          dsimp only at hbd146
          refine yH 6 (yQ (num_any (lim := 10000) hA139 hN143 (by omega)) ?_)
          rintro w147 ⟨hA144, hc145⟩
          have hX148 : Ch (srB sr rv) w w147 := Ch.trans hX135 hc145 (fun _ _ h => .inr h)
          have hB149 := hB136.ch hc145 hS.ne
          have hB150 := hB137.ch hc145 (fun (h : b11 = rv) => by have := hlo17; have := hS.rd.lt; omega)
          have hB151 := hB138.ch hc145 (fun (h : b48 = rv) => by have := hlo54; have := hS.rd.lt; omega)
          have hO152 := hO140.ch hc145 (fun b e (h : b = rv) => by have := hlo b e; have := hS.rd.lt; omega)
          refine x_heldB hc145 iZ ?_
          refine yH 7 (yB [iX x141] 3 1 fun w153 b154 hb155 hz156 hB157 hc158 => ?_)
          have hbn159 : ∀ b', o = some b' → ¬ b' = b154 := fun b' e => by have := hO152.ltOf e; omega
          have hX160 : Ch (srB sr rv) w w153 := Ch.trans hX148 hc158 eZ
          have hlo161 : w.heap.size ≤ b154 := by rw [hb155]; exact Ch.size hX148
          have hB162 := hB149.ch hc158 id
          have hB163 := hB150.ch hc158 id
          have hB164 := hB151.ch hc158 id
          have hO165 := hO152.ch hc158 iZ
          have hA166 := hA144.ch hc158 id id
          refine x_heldB hc158 eZ ?_
          refine yK 8 (e_app' 3 1 8 o n cap (l.map (Value.int .i64)) (some ⟨b154, 0, none⟩) 1 1 [iX x141] (some 47) (n + 1) rfl ((l ++ [x141]).map (Value.int .i64)) (by rw [List.map_append]; rfl) (by kernel_rfl) hO165 (Rd.all hB157) rfl rfl (fun h => by cases h) (by constructor <;> first | omega | (simp only [maxLen]; omega)) ?_)
          intro w167 og168 cp169 hO170 hne171 hpos172 hc173
          have hA174 := App.of hne171 hc173
          have hlo175 : ∀ b, og168 = some b → w.heap.size ≤ b := fun b e => by
            rcases hne171 with h | ⟨g', h, h'⟩
            · exact hlo b (h ▸ e)
            · rw [h] at e; have := Option.some.inj e; have := Ch.size hX160; omega
          have hbn176 := hA174.apart hB164.lt hne3
          have hbn177 := hA174.apart hB163.lt hne2
          have hX178 : Ch (srB sr rv) w w167 := Ch.trans hX160 hc173 (fun i hi h => by have := hlo _ h; omega)
          have hB179 := hB162.ch hc173 (fun h => by have := hlo _ h; have := hS.blk.lt; omega)
          have hB180 := hB163.ch hc173 (fun h => hne2 _ h rfl)
          have hB181 := hB164.ch hc173 (fun h => hne3 _ h rfl)
          have hA182 := hA166.ch hc173 (fun h => by have := hlo _ h; have := hS.rd.lt; omega) (fun h => by have := hlo _ h; have := hS.rd.dlt; omega)
          refine x_killed ?_
          refine yd [9] [] .z ?_
          refine yK 10 (yS hB181 fun w183 hB184 hc185 => ?_)
          have hX186 : Ch (srB sr rv) w w183 := Ch.trans hX178 hc185 (fun i hi (h : i = b48) => by have := hlo54; omega)
          have hB187 := hB179.ch hc185 (fun (h : sr = b48) => by have := hlo54; have := hS.blk.lt; omega)
          have hB188 := hB180.ch hc185 (fun (h : b11 = b48) => by have := hB46.lt; omega)
          have hA189 := hA182.ch hc185 (fun (h : rv = b48) => by have := hlo54; have := hS.rd.lt; omega) (fun (h : D = b48) => by have := hlo54; have := hS.rd.dlt; omega)
          have hO190 := hO170.ch hc185 (fun b e (h : b = b48) => hbn176 b e h)
          replace hB184 : Blk w183 b48 [iX x27, uX (mkU (bytI x73)).b0, uX (mkU (bytI x73)).b1, uX (mkU (bytI x73)).b2, iX (mkU (bytI x73)).n, .string x98, .slice (og168.map at0) (n + 1) cp169, .string ByteArray.empty, iX x37] _ := Blk.to hB184 (by kernel_rfl)
          refine x_killed ?_
          refine yDe (nB (nS ?_))
          refine x_region ?_
          refine yp 2 [] (.q6 (((k : Nat) : Int) + 1) .z) ?_
          rw [hN143] at hG
          refine yE (fun a ha => hL130 (k + 1, (l ++ [x141]), og168, (n + 1), cp169, s142) _ ⟨by omega, hG, hO190, hlo175, hbn176, hbn177, by omega, hB187, hB184, hB188, hA189, hX186⟩ (by show (x116 : Int).toNat - (k + 1) < (x116 : Int).toNat - k; omega) a (ha.kp [0, 2, 3, 36, 37]))
        · have hkH := hC131
          have hkt : (x116 : Int).toNat - k = 0 := by omega
          rw [hkt, numsF] at hG
          refine x_exit (eS (then_exit (block_exit (nS ?_))))
          refine ysr ?_
          refine yp 4 [] (.l (hB.c 0) .z) ?_
          obtain ⟨x191, s192, hN193⟩ : ∃ x s', textR 40 s = (x, s') := ⟨_, _, rfl⟩
          refine yo (yQ (text_anyR (most := 40) hR hN193 (by decide)) ?_)
          rintro w196 ⟨hA194, hc195⟩
          have hX197 : Ch (srB sr rv) w w196 := Ch.trans hcx hc195 (fun _ _ h => .inr h)
          have hB198 := hB.ch hc195 hS.ne
          have hB199 := hB2.ch hc195 (fun (h : b11 = rv) => by have := hlo17; have := hS.rd.lt; omega)
          have hB200 := hB3.ch hc195 (fun (h : b48 = rv) => by have := hlo54; have := hS.rd.lt; omega)
          have hO201 := hO.ch hc195 (fun b e (h : b = rv) => by have := hlo b e; have := hS.rd.lt; omega)
          have htb202 := textR_bd hN193 (by decide)
          refine yp 6 [] .z ?_
          refine yo (yS hB200 fun w203 hB204 hc205 => ?_)
          have hX206 : Ch (srB sr rv) w w203 := Ch.trans hX197 hc205 (fun i hi (h : i = b48) => by have := hlo54; omega)
          have hB207 := hB198.ch hc205 (fun (h : sr = b48) => by have := hlo54; have := hS.blk.lt; omega)
          have hB208 := hB199.ch hc205 (fun (h : b11 = b48) => by have := hB46.lt; omega)
          have hO209 := hO201.ch hc205 (fun b e (h : b = b48) => hne3 b e h)
          have hA210 := hA194.ch hc205 (fun (h : rv = b48) => by have := hlo54; have := hS.rd.lt; omega) (fun (h : D = b48) => by have := hlo54; have := hS.rd.dlt; omega)
          replace hB204 : Blk w203 b48 [iX x27, uX (mkU (bytI x73)).b0, uX (mkU (bytI x73)).b1, uX (mkU (bytI x73)).b2, iX (mkU (bytI x73)).n, .string x98, .slice (o.map at0) n cap, .string x191, iX x37] _ := Blk.to hB204 (by kernel_rfl)
          refine ye ?_
          refine ysr ?_
          refine yp 6 [] (.l (hB207.c 1) .z) ?_
          refine yw [61] (rY fine) (fun hC211 => ?_) fun hC211 => ?_
          · have hfi := hC211
            refine yp 7 [] (.a (hB204.cs 0 9) .z) ?_
            refine yo (yQ (rightE (PS.mk x27 (mkU (bytI x73)) x98 l x191 x37) (o.map at0) n cap _ (utabs_ch hX206 hU (fun h => h.elim (fun (h : gFirst = sr) => by have := u_lt; omega) (fun (h : gFirst = rv) => by have := u_lt; omega)) (fun h => h.elim (fun (h : gAcc = sr) => by have := u_lt; omega) (fun (h : gAcc = rv) => by have := u_lt; omega))) (mkU_ok (bytI_byts _) hul) hO209.rd hll (by cases ho : o with | none => rw [ho] at hO; exact .inl (hO.2.2.2.1 rfl).1 | some b => exact .inr ⟨b, 0, rfl⟩) (by omega) (by dsimp only; omega)) fun w213 hc212 => ?_)
            have hX214 : Ch (srB sr rv) w w213 := Ch.trans hX206 hc212 eZ
            have hB215 := hB207.ch hc212 id
            have hB216 := hB208.ch hc212 id
            have hO217 := hO209.ch hc212 iZ
            have hA218 := hA210.ch hc212 id id
            have hB219 := hB204.ch hc212 id
            refine yp 11 [] .z ?_
            refine yo (yS hB215 fun w220 hB221 hc222 => ?_)
            have hX223 : Ch (srB sr rv) w w220 := Ch.trans hX214 hc222 (fun _ _ h => .inl h)
            have hB224 := hB216.ch hc222 (fun (h : b11 = sr) => by have := hlo17; have := hS.blk.lt; omega)
            have hO225 := hO217.ch hc222 (fun b e (h : b = sr) => by have := hlo b e; have := hS.blk.lt; omega)
            have hA226 := hA218.ch hc222 (fun h => hS.ne h.symm) (fun h => hS.nd h.symm)
            have hB227 := hB219.ch hc222 (fun (h : b48 = sr) => by have := hlo54; have := hS.blk.lt; omega)
            replace hB221 : Blk w220 sr [pX rv, .bool (prightB (PS.mk x27 (mkU (bytI x73)) x98 l x191 x37))] _ := Blk.to hB221 (by kernel_rfl)
            refine ye ?_
            refine ysr ?_
            refine yp 1 [] (.a (hB227.cs 0 9) .z) ?_
            refine yo (yS hB224 fun w228 hB229 hc230 => ?_)
            have hX231 : Ch (srB sr rv) w w228 := Ch.trans hX223 hc230 (fun i hi (h : i = b11) => by have := hlo17; omega)
            have hO232 := hO225.ch hc230 (fun b e (h : b = b11) => hne2 b e h)
            have hA233 := hA226.ch hc230 (fun (h : rv = b11) => by have := hlo17; have := hS.rd.lt; omega) (fun (h : D = b11) => by have := hlo17; have := hS.rd.dlt; omega)
            have hB235 := hB221.ch hc230 (fun (h : sr = b11) => by have := hlo17; have := hS.blk.lt; omega)
            replace hB229 : Blk w228 b11 [iX x27, uX (mkU (bytI x73)).b0, uX (mkU (bytI x73)).b1, uX (mkU (bytI x73)).b2, iX (mkU (bytI x73)).n, .string x98, .slice (o.map at0) n cap, .string x191, iX x37] _ := Blk.to hB229 (by kernel_rfl)
            refine ye ?_
            refine x_ret (yR1c (.agg #[iX x27, uX (mkU (bytI x73)).b0, uX (mkU (bytI x73)).b1, uX (mkU (bytI x73)).b2, iX (mkU (bytI x73)).n, .string x98, .slice (o.map at0) n cap, .string x191, iX x37]) (.a (hB229.cs 0 9) .z) ?_)
            rw [parsR_eq hN29 hN39 hN75 hN100 hN118 hG.symm hN193] at hP
            simp only [Prod.mk.injEq] at hP
            obtain ⟨rfl, rfl, rfl⟩ := hP
            have hb236 : (prightB (PS.mk x27 (mkU (bytI x73)) x98 l x191 x37)) = (fine && prightB (PS.mk x27 (mkU (bytI x73)) x98 l x191 x37)) := by rw [hfi]; rfl
            exact ⟨o, n, cap, rfl, hO232, hlo, ⟨by rw [← hb236]; exact hB235, hA233, hS.ne, hS.nd⟩, hX231⟩
          · have hfi := hC211
            refine yp 11 [] .z ?_
            refine yo (yS hB207 fun w237 hB238 hc239 => ?_)
            have hX240 : Ch (srB sr rv) w w237 := Ch.trans hX206 hc239 (fun _ _ h => .inl h)
            have hB241 := hB208.ch hc239 (fun (h : b11 = sr) => by have := hlo17; have := hS.blk.lt; omega)
            have hO242 := hO209.ch hc239 (fun b e (h : b = sr) => by have := hlo b e; have := hS.blk.lt; omega)
            have hA243 := hA210.ch hc239 (fun h => hS.ne h.symm) (fun h => hS.nd h.symm)
            have hB244 := hB204.ch hc239 (fun (h : b48 = sr) => by have := hlo54; have := hS.blk.lt; omega)
            replace hB238 : Blk w237 sr [pX rv, .bool false] _ := Blk.to hB238 (by kernel_rfl)
            refine ye ?_
            refine ysr ?_
            refine yp 1 [] (.a (hB244.cs 0 9) .z) ?_
            refine yo (yS hB241 fun w245 hB246 hc247 => ?_)
            have hX248 : Ch (srB sr rv) w w245 := Ch.trans hX240 hc247 (fun i hi (h : i = b11) => by have := hlo17; omega)
            have hO249 := hO242.ch hc247 (fun b e (h : b = b11) => hne2 b e h)
            have hA250 := hA243.ch hc247 (fun (h : rv = b11) => by have := hlo17; have := hS.rd.lt; omega) (fun (h : D = b11) => by have := hlo17; have := hS.rd.dlt; omega)
            have hB252 := hB238.ch hc247 (fun (h : sr = b11) => by have := hlo17; have := hS.blk.lt; omega)
            replace hB246 : Blk w245 b11 [iX x27, uX (mkU (bytI x73)).b0, uX (mkU (bytI x73)).b1, uX (mkU (bytI x73)).b2, iX (mkU (bytI x73)).n, .string x98, .slice (o.map at0) n cap, .string x191, iX x37] _ := Blk.to hB246 (by kernel_rfl)
            refine ye ?_
            refine x_ret (yR1c (.agg #[iX x27, uX (mkU (bytI x73)).b0, uX (mkU (bytI x73)).b1, uX (mkU (bytI x73)).b2, iX (mkU (bytI x73)).n, .string x98, .slice (o.map at0) n cap, .string x191, iX x37]) (.a (hB246.cs 0 9) .z) ?_)
            rw [parsR_eq hN29 hN39 hN75 hN100 hN118 hG.symm hN193] at hP
            simp only [Prod.mk.injEq] at hP
            obtain ⟨rfl, rfl, rfl⟩ := hP
            have hb253 : false = (fine && prightB (PS.mk x27 (mkU (bytI x73)) x98 l x191 x37)) := by rw [hfi]; rfl
            exact ⟨o, n, cap, rfl, hO249, hlo, ⟨by rw [← hb253]; exact hB252, hA250, hS.ne, hS.nd⟩, hX248⟩
    · refine x_seff 11 _ (by kernel_rfl) rfl (yN [iX 0, uX 0, uX 0, uX 0, iX 0, .string ByteArray.empty, .slice none 0 0, .string ByteArray.empty, iX 0] 41 fun w254 b255 hb256 hz257 hB258 hc259 => ?_)
      have hX260 : Ch (srB sr rv) w w254 := Ch.trans hX34 hc259 eZ
      have hlo261 : w.heap.size ≤ b255 := by rw [hb256]; exact Ch.size hX34
      have hB262 := hB35.ch hc259 id
      have hB263 := hB36.ch hc259 id
      have hA264 := hA30.ch hc259 id id
      refine x_heldB hc259 eZ ?_
      obtain ⟨x265, s266, hN267⟩ : ∃ x s', numR (8) s28 = (x, s') := ⟨_, _, rfl⟩
      have hbd270 := numR_bd (lim := 8) (s := s28)
      rw [hN267] at hbd270
      dsimp only at hbd270
      refine yK 9 (yQ (num_any (lim := 8) hA264 hN267 (by omega)) ?_)
      rintro w271 ⟨hA268, hc269⟩
      have hX272 : Ch (srB sr rv) w w271 := Ch.trans hX260 hc269 (fun _ _ h => .inr h)
      have hB273 := hB262.ch hc269 hS.ne
      have hB274 := hB263.ch hc269 (fun (h : b11 = rv) => by have := hlo17; have := hS.rd.lt; omega)
      have hB275 := hB258.ch hc269 (fun (h : b255 = rv) => by have := hlo261; have := hS.rd.lt; omega)
      refine x_killed ?_
      refine yd [10] [] .z ?_
      refine yK 12 (yS hB275 fun w276 hB277 hc278 => ?_)
      have hX279 : Ch (srB sr rv) w w276 := Ch.trans hX272 hc278 (fun i hi (h : i = b255) => by have := hlo261; omega)
      have hB280 := hB273.ch hc278 (fun (h : sr = b255) => by have := hlo261; have := hS.blk.lt; omega)
      have hB281 := hB274.ch hc278 (fun (h : b11 = b255) => by have := hB36.lt; omega)
      have hA282 := hA268.ch hc278 (fun (h : rv = b255) => by have := hlo261; have := hS.rd.lt; omega) (fun (h : D = b255) => by have := hlo261; have := hS.rd.dlt; omega)
      replace hB277 : Blk w276 b255 [iX x27, uX 0, uX 0, uX 0, iX 0, .string ByteArray.empty, .slice none 0 0, .string ByteArray.empty, iX x265] _ := Blk.to hB277 (by kernel_rfl)
      refine x_killed ?_
      refine yDe (nS ?_)
      refine ys ?_
      refine yD [7, 8, 11] fun w283 hH284 hc285 => ?_
      have hX286 : Ch (srB sr rv) w w283 := Ch.trans hX279 hc285 eZ
      have hB287 := hB280.ch hc285 id
      have hB288 := hB281.ch hc285 id
      have hA289 := hA282.ch hc285 id id
      have hB290 := hB277.ch hc285 id
      refine yd (uL 0 7) [] (.l (hB287.c 0) .z) ?_
      obtain ⟨x291, s292, hN293⟩ : ∃ x s', textR 3 s266 = (x, s') := ⟨_, _, rfl⟩
      refine yK 7 (yQ (text_anyR (most := 3) hA289 hN293 (by decide)) ?_)
      rintro w296 ⟨hA294, hc295⟩
      have hX297 : Ch (srB sr rv) w w296 := Ch.trans hX286 hc295 (fun _ _ h => .inr h)
      have hB298 := hB287.ch hc295 hS.ne
      have hB299 := hB288.ch hc295 (fun (h : b11 = rv) => by have := hlo17; have := hS.rd.lt; omega)
      have hB300 := hB290.ch hc295 (fun (h : b255 = rv) => by have := hlo261; have := hS.rd.lt; omega)
      have htb301 := textR_bd hN293 (by decide)
      refine x_killed ?_
      have hul : (bytI x291).length ≤ 3 := by rw [bytI_len]; omega
      refine yK 8 (e_copyS' b255 1 3 3 x291 (some 23) (mkU (bytI x291)).n (mkU_n x291) (by kernel_rfl) hB300 (by omega) (by simp only [List.length_cons, List.length_nil]; omega) ?_)
      intro w302 hB303 hc304
      rw [bytV_bytI, put_mkU hul] at hB303
      have hX305 : Ch (srB sr rv) w w302 := Ch.trans hX297 hc304 (fun i hi (h : i = b255) => by have := hlo261; omega)
      have hB306 := hB298.ch hc304 (fun (h : sr = b255) => by have := hlo261; have := hS.blk.lt; omega)
      have hB307 := hB299.ch hc304 (fun (h : b11 = b255) => by have := hB36.lt; omega)
      have hA308 := hA294.ch hc304 (fun (h : rv = b255) => by have := hlo261; have := hS.rd.lt; omega) (fun (h : D = b255) => by have := hlo261; have := hS.rd.dlt; omega)
      refine x_killed ?_
      refine yd [9, 10] [] .z ?_
      refine yK 11 (yS hB303 fun w309 hB310 hc311 => ?_)
      have hX312 : Ch (srB sr rv) w w309 := Ch.trans hX305 hc311 (fun i hi (h : i = b255) => by have := hlo261; omega)
      have hB313 := hB306.ch hc311 (fun (h : sr = b255) => by have := hlo261; have := hS.blk.lt; omega)
      have hB314 := hB307.ch hc311 (fun (h : b11 = b255) => by have := hB36.lt; omega)
      have hA315 := hA308.ch hc311 (fun (h : rv = b255) => by have := hlo261; have := hS.rd.lt; omega) (fun (h : D = b255) => by have := hlo261; have := hS.rd.dlt; omega)
      replace hB310 : Blk w309 b255 [iX x27, uX (mkU (bytI x291)).b0, uX (mkU (bytI x291)).b1, uX (mkU (bytI x291)).b2, iX (mkU (bytI x291)).n, .string ByteArray.empty, .slice none 0 0, .string ByteArray.empty, iX x265] _ := Blk.to hB310 (by kernel_rfl)
      refine x_killed ?_
      refine yDe (nS ?_)
      refine ysr ?_
      refine yp 4 [] (.l (hB313.c 0) .z) ?_
      obtain ⟨x316, s317, hN318⟩ : ∃ x s', textR 2 s292 = (x, s') := ⟨_, _, rfl⟩
      refine yo (yQ (text_anyR (most := 2) hA315 hN318 (by decide)) ?_)
      rintro w321 ⟨hA319, hc320⟩
      have hX322 : Ch (srB sr rv) w w321 := Ch.trans hX312 hc320 (fun _ _ h => .inr h)
      have hB323 := hB313.ch hc320 hS.ne
      have hB324 := hB314.ch hc320 (fun (h : b11 = rv) => by have := hlo17; have := hS.rd.lt; omega)
      have hB325 := hB310.ch hc320 (fun (h : b255 = rv) => by have := hlo261; have := hS.rd.lt; omega)
      have htb326 := textR_bd hN318 (by decide)
      refine yp 6 [] .z ?_
      refine yo (yS hB325 fun w327 hB328 hc329 => ?_)
      have hX330 : Ch (srB sr rv) w w327 := Ch.trans hX322 hc329 (fun i hi (h : i = b255) => by have := hlo261; omega)
      have hB331 := hB323.ch hc329 (fun (h : sr = b255) => by have := hlo261; have := hS.blk.lt; omega)
      have hB332 := hB324.ch hc329 (fun (h : b11 = b255) => by have := hB36.lt; omega)
      have hA333 := hA319.ch hc329 (fun (h : rv = b255) => by have := hlo261; have := hS.rd.lt; omega) (fun (h : D = b255) => by have := hlo261; have := hS.rd.dlt; omega)
      replace hB328 : Blk w327 b255 [iX x27, uX (mkU (bytI x291)).b0, uX (mkU (bytI x291)).b1, uX (mkU (bytI x291)).b2, iX (mkU (bytI x291)).n, .string x316, .slice none 0 0, .string ByteArray.empty, iX x265] _ := Blk.to hB328 (by kernel_rfl)
      refine ye ?_
      refine ys ?_
      refine ysr ?_
      refine yp 4 [] (.l (hB331.c 0) .z) ?_
      obtain ⟨x334, s335, hN336⟩ : ∃ x s', numR (9) s317 = (x, s') := ⟨_, _, rfl⟩
      have hbd339 := numR_bd (lim := 9) (s := s317)
      rw [hN336] at hbd339
      dsimp only at hbd339
      refine yo (yQ (num_any (lim := 9) hA333 hN336 (by omega)) ?_)
      rintro w340 ⟨hA337, hc338⟩
      have hX341 : Ch (srB sr rv) w w340 := Ch.trans hX330 hc338 (fun _ _ h => .inr h)
      have hB342 := hB331.ch hc338 hS.ne
      have hB343 := hB332.ch hc338 (fun (h : b11 = rv) => by have := hlo17; have := hS.rd.lt; omega)
      have hB344 := hB328.ch hc338 (fun (h : b255 = rv) => by have := hlo261; have := hS.rd.lt; omega)
      refine yp 6 [] .z ?_
      refine ye ?_
      refine x_block ?_
      refine ykeep [0, 2, 3, 36, 37] (f' := [(0, pX sr), (2, pX b11), (3, pX b255), (36, iX x334), (37, iX 0)]) ?_
      refine x_loop (σ := Nat × List Int × Option Nat × Nat × Nat × RS) (fun ⟨k, l, o, n, cap, s⟩ => [(0, pX sr), (2, pX b11), (3, pX b255), (36, iX x334), (37, iX ((k : Nat) : Int))]) (fun ⟨k, l, o, n, cap, s⟩ u => k ≤ (x334 : Int).toNat ∧ numsF ((x334 : Int).toNat - k) l s = numsF (x334 : Int).toNat [] s335 ∧ Own u tI 1 o n cap (l.map (Value.int .i64)) ∧ (∀ b, o = some b → w.heap.size ≤ b) ∧ (∀ b, o = some b → ¬ b = b255) ∧ (∀ b, o = some b → ¬ b = b11) ∧ n ≤ k ∧ Blk u sr [pX rv, .bool fine] tSr ∧ Blk u b255 [iX x27, uX (mkU (bytI x291)).b0, uX (mkU (bytI x291)).b1, uX (mkU (bytI x291)).b2, iX (mkU (bytI x291)).n, .string x316, .slice (o.map at0) n cap, .string ByteArray.empty, iX x265] 41 ∧ Blk u b11 [iX 0, uX 0, uX 0, uX 0, iX 0, .string ByteArray.empty, .slice none 0 0, .string ByteArray.empty, iX 0] 41 ∧ RdrAt u rv D s ∧ Ch (srB sr rv) w u) (fun ⟨k, l, o, n, cap, s⟩ => (x334 : Int).toNat - k) (0, [], none, 0, 0, s335) rfl ?_ ?_
      · exact ⟨Nat.zero_le _, rfl, Own.nil _ _ _, (fun b e => by cases e), (fun b e => by cases e), (fun b e => by cases e), Nat.le_refl _, hB342, hB344, hB343, hA337, hX341⟩
      · intro p w345 hI346 K347 hL348
        obtain ⟨k, l, o, n, cap, s⟩ := p
        obtain ⟨hk, hG, hO, hlo, hne3, hne2, hnk, hB, hB3, hB2, hR, hcx⟩ := hI346
        have hnc : n ≤ cap := hO.2.1
        have hll : l.length = n := by have h := hO.1; simpa using h
        refine ysr ?_
        refine yp 1 [] .z ?_
        refine ye ?_
        refine ys ?_
        refine yc (rL ((k : Nat) : Int) x334) (fun hC349 => ?_) fun hC349 => ?_
        · have hkH := hC349
          have hkt : (x334 : Int).toNat - k = ((x334 : Int).toNat - (k + 1)) + 1 := by omega
          rw [hkt, numsF] at hG
          refine yk ?_
          refine ys ?_
          refine x_block ?_
          refine x_drawnB (fun j => j = rv) [8, 10] (by kernel_rfl) (fun w350 hH351 hc352 => ?_)
          have hX353 : Ch (srB sr rv) w w350 := Ch.trans hcx hc352 eZ
          have hB354 := hB.ch hc352 id
          have hB355 := hB2.ch hc352 id
          have hB356 := hB3.ch hc352 id
          have hA357 := hR.ch hc352 id id
          have hO358 := hO.ch hc352 iZ
          refine ydC (uL 0 6) [] (fun u hu => (.l (cell_ch hu (hB356.c 6) (fun (h : b255 = rv) => by have := hlo261; have := hS.rd.lt; omega)) (.l (cell_ch hu (hB354.c 0) hS.ne) .z))) ?_
          obtain ⟨x359, s360, hN361⟩ : ∃ x s', numR (10000) s = (x, s') := ⟨_, _, rfl⟩
          have hbd364 := numR_bd (lim := 10000) (s := s)
          rw [hN361] at hbd364
          dsimp only at hbd364
          refine yH 6 (yQ (num_any (lim := 10000) hA357 hN361 (by omega)) ?_)
          rintro w365 ⟨hA362, hc363⟩
          have hX366 : Ch (srB sr rv) w w365 := Ch.trans hX353 hc363 (fun _ _ h => .inr h)
          have hB367 := hB354.ch hc363 hS.ne
          have hB368 := hB355.ch hc363 (fun (h : b11 = rv) => by have := hlo17; have := hS.rd.lt; omega)
          have hB369 := hB356.ch hc363 (fun (h : b255 = rv) => by have := hlo261; have := hS.rd.lt; omega)
          have hO370 := hO358.ch hc363 (fun b e (h : b = rv) => by have := hlo b e; have := hS.rd.lt; omega)
          refine x_heldB hc363 iZ ?_
          refine yH 7 (yB [iX x359] 3 1 fun w371 b372 hb373 hz374 hB375 hc376 => ?_)
          have hbn377 : ∀ b', o = some b' → ¬ b' = b372 := fun b' e => by have := hO370.ltOf e; omega
          have hX378 : Ch (srB sr rv) w w371 := Ch.trans hX366 hc376 eZ
          have hlo379 : w.heap.size ≤ b372 := by rw [hb373]; exact Ch.size hX366
          have hB380 := hB367.ch hc376 id
          have hB381 := hB368.ch hc376 id
          have hB382 := hB369.ch hc376 id
          have hO383 := hO370.ch hc376 iZ
          have hA384 := hA362.ch hc376 id id
          refine x_heldB hc376 eZ ?_
          refine yK 8 (e_app' 3 1 8 o n cap (l.map (Value.int .i64)) (some ⟨b372, 0, none⟩) 1 1 [iX x359] (some 47) (n + 1) rfl ((l ++ [x359]).map (Value.int .i64)) (by rw [List.map_append]; rfl) (by kernel_rfl) hO383 (Rd.all hB375) rfl rfl (fun h => by cases h) (by constructor <;> first | omega | (simp only [maxLen]; omega)) ?_)
          intro w385 og386 cp387 hO388 hne389 hpos390 hc391
          have hA392 := App.of hne389 hc391
          have hlo393 : ∀ b, og386 = some b → w.heap.size ≤ b := fun b e => by
            rcases hne389 with h | ⟨g', h, h'⟩
            · exact hlo b (h ▸ e)
            · rw [h] at e; have := Option.some.inj e; have := Ch.size hX378; omega
          have hbn394 := hA392.apart hB382.lt hne3
          have hbn395 := hA392.apart hB381.lt hne2
          have hX396 : Ch (srB sr rv) w w385 := Ch.trans hX378 hc391 (fun i hi h => by have := hlo _ h; omega)
          have hB397 := hB380.ch hc391 (fun h => by have := hlo _ h; have := hS.blk.lt; omega)
          have hB398 := hB381.ch hc391 (fun h => hne2 _ h rfl)
          have hB399 := hB382.ch hc391 (fun h => hne3 _ h rfl)
          have hA400 := hA384.ch hc391 (fun h => by have := hlo _ h; have := hS.rd.lt; omega) (fun h => by have := hlo _ h; have := hS.rd.dlt; omega)
          refine x_killed ?_
          refine yd [9] [] .z ?_
          refine yK 10 (yS hB399 fun w401 hB402 hc403 => ?_)
          have hX404 : Ch (srB sr rv) w w401 := Ch.trans hX396 hc403 (fun i hi (h : i = b255) => by have := hlo261; omega)
          have hB405 := hB397.ch hc403 (fun (h : sr = b255) => by have := hlo261; have := hS.blk.lt; omega)
          have hB406 := hB398.ch hc403 (fun (h : b11 = b255) => by have := hB36.lt; omega)
          have hA407 := hA400.ch hc403 (fun (h : rv = b255) => by have := hlo261; have := hS.rd.lt; omega) (fun (h : D = b255) => by have := hlo261; have := hS.rd.dlt; omega)
          have hO408 := hO388.ch hc403 (fun b e (h : b = b255) => hbn394 b e h)
          replace hB402 : Blk w401 b255 [iX x27, uX (mkU (bytI x291)).b0, uX (mkU (bytI x291)).b1, uX (mkU (bytI x291)).b2, iX (mkU (bytI x291)).n, .string x316, .slice (og386.map at0) (n + 1) cp387, .string ByteArray.empty, iX x265] _ := Blk.to hB402 (by kernel_rfl)
          refine x_killed ?_
          refine yDe (nB (nS ?_))
          refine x_region ?_
          refine yp 2 [] (.q6 (((k : Nat) : Int) + 1) .z) ?_
          rw [hN361] at hG
          refine yE (fun a ha => hL348 (k + 1, (l ++ [x359]), og386, (n + 1), cp387, s360) _ ⟨by omega, hG, hO408, hlo393, hbn394, hbn395, by omega, hB405, hB402, hB406, hA407, hX404⟩ (by show (x334 : Int).toNat - (k + 1) < (x334 : Int).toNat - k; omega) a (ha.kp [0, 2, 3, 36, 37]))
        · have hkH := hC349
          have hkt : (x334 : Int).toNat - k = 0 := by omega
          rw [hkt, numsF] at hG
          refine x_exit (eS (then_exit (block_exit (nS ?_))))
          refine ysr ?_
          refine yp 4 [] (.l (hB.c 0) .z) ?_
          obtain ⟨x409, s410, hN411⟩ : ∃ x s', textR 40 s = (x, s') := ⟨_, _, rfl⟩
          refine yo (yQ (text_anyR (most := 40) hR hN411 (by decide)) ?_)
          rintro w414 ⟨hA412, hc413⟩
          have hX415 : Ch (srB sr rv) w w414 := Ch.trans hcx hc413 (fun _ _ h => .inr h)
          have hB416 := hB.ch hc413 hS.ne
          have hB417 := hB2.ch hc413 (fun (h : b11 = rv) => by have := hlo17; have := hS.rd.lt; omega)
          have hB418 := hB3.ch hc413 (fun (h : b255 = rv) => by have := hlo261; have := hS.rd.lt; omega)
          have hO419 := hO.ch hc413 (fun b e (h : b = rv) => by have := hlo b e; have := hS.rd.lt; omega)
          have htb420 := textR_bd hN411 (by decide)
          refine yp 6 [] .z ?_
          refine yo (yS hB418 fun w421 hB422 hc423 => ?_)
          have hX424 : Ch (srB sr rv) w w421 := Ch.trans hX415 hc423 (fun i hi (h : i = b255) => by have := hlo261; omega)
          have hB425 := hB416.ch hc423 (fun (h : sr = b255) => by have := hlo261; have := hS.blk.lt; omega)
          have hB426 := hB417.ch hc423 (fun (h : b11 = b255) => by have := hB36.lt; omega)
          have hO427 := hO419.ch hc423 (fun b e (h : b = b255) => hne3 b e h)
          have hA428 := hA412.ch hc423 (fun (h : rv = b255) => by have := hlo261; have := hS.rd.lt; omega) (fun (h : D = b255) => by have := hlo261; have := hS.rd.dlt; omega)
          replace hB422 : Blk w421 b255 [iX x27, uX (mkU (bytI x291)).b0, uX (mkU (bytI x291)).b1, uX (mkU (bytI x291)).b2, iX (mkU (bytI x291)).n, .string x316, .slice (o.map at0) n cap, .string x409, iX x265] _ := Blk.to hB422 (by kernel_rfl)
          refine ye ?_
          refine ysr ?_
          refine yp 6 [] (.l (hB425.c 1) .z) ?_
          refine yw [61] (rY fine) (fun hC429 => ?_) fun hC429 => ?_
          · have hfi := hC429
            refine yp 7 [] (.a (hB422.cs 0 9) .z) ?_
            refine yo (yQ (rightE (PS.mk x27 (mkU (bytI x291)) x316 l x409 x265) (o.map at0) n cap _ (utabs_ch hX424 hU (fun h => h.elim (fun (h : gFirst = sr) => by have := u_lt; omega) (fun (h : gFirst = rv) => by have := u_lt; omega)) (fun h => h.elim (fun (h : gAcc = sr) => by have := u_lt; omega) (fun (h : gAcc = rv) => by have := u_lt; omega))) (mkU_ok (bytI_byts _) hul) hO427.rd hll (by cases ho : o with | none => rw [ho] at hO; exact .inl (hO.2.2.2.1 rfl).1 | some b => exact .inr ⟨b, 0, rfl⟩) (by omega) (by dsimp only; omega)) fun w431 hc430 => ?_)
            have hX432 : Ch (srB sr rv) w w431 := Ch.trans hX424 hc430 eZ
            have hB433 := hB425.ch hc430 id
            have hB434 := hB426.ch hc430 id
            have hO435 := hO427.ch hc430 iZ
            have hA436 := hA428.ch hc430 id id
            have hB437 := hB422.ch hc430 id
            refine yp 11 [] .z ?_
            refine yo (yS hB433 fun w438 hB439 hc440 => ?_)
            have hX441 : Ch (srB sr rv) w w438 := Ch.trans hX432 hc440 (fun _ _ h => .inl h)
            have hB442 := hB434.ch hc440 (fun (h : b11 = sr) => by have := hlo17; have := hS.blk.lt; omega)
            have hO443 := hO435.ch hc440 (fun b e (h : b = sr) => by have := hlo b e; have := hS.blk.lt; omega)
            have hA444 := hA436.ch hc440 (fun h => hS.ne h.symm) (fun h => hS.nd h.symm)
            have hB445 := hB437.ch hc440 (fun (h : b255 = sr) => by have := hlo261; have := hS.blk.lt; omega)
            replace hB439 : Blk w438 sr [pX rv, .bool (prightB (PS.mk x27 (mkU (bytI x291)) x316 l x409 x265))] _ := Blk.to hB439 (by kernel_rfl)
            refine ye ?_
            refine ysr ?_
            refine yp 1 [] (.a (hB445.cs 0 9) .z) ?_
            refine yo (yS hB442 fun w446 hB447 hc448 => ?_)
            have hX449 : Ch (srB sr rv) w w446 := Ch.trans hX441 hc448 (fun i hi (h : i = b11) => by have := hlo17; omega)
            have hO450 := hO443.ch hc448 (fun b e (h : b = b11) => hne2 b e h)
            have hA451 := hA444.ch hc448 (fun (h : rv = b11) => by have := hlo17; have := hS.rd.lt; omega) (fun (h : D = b11) => by have := hlo17; have := hS.rd.dlt; omega)
            have hB453 := hB439.ch hc448 (fun (h : sr = b11) => by have := hlo17; have := hS.blk.lt; omega)
            replace hB447 : Blk w446 b11 [iX x27, uX (mkU (bytI x291)).b0, uX (mkU (bytI x291)).b1, uX (mkU (bytI x291)).b2, iX (mkU (bytI x291)).n, .string x316, .slice (o.map at0) n cap, .string x409, iX x265] _ := Blk.to hB447 (by kernel_rfl)
            refine ye ?_
            refine x_ret (yR1c (.agg #[iX x27, uX (mkU (bytI x291)).b0, uX (mkU (bytI x291)).b1, uX (mkU (bytI x291)).b2, iX (mkU (bytI x291)).n, .string x316, .slice (o.map at0) n cap, .string x409, iX x265]) (.a (hB447.cs 0 9) .z) ?_)
            rw [parsR_eq hN29 hN267 hN293 hN318 hN336 hG.symm hN411] at hP
            simp only [Prod.mk.injEq] at hP
            obtain ⟨rfl, rfl, rfl⟩ := hP
            have hb454 : (prightB (PS.mk x27 (mkU (bytI x291)) x316 l x409 x265)) = (fine && prightB (PS.mk x27 (mkU (bytI x291)) x316 l x409 x265)) := by rw [hfi]; rfl
            exact ⟨o, n, cap, rfl, hO450, hlo, ⟨by rw [← hb454]; exact hB453, hA451, hS.ne, hS.nd⟩, hX449⟩
          · have hfi := hC429
            refine yp 11 [] .z ?_
            refine yo (yS hB425 fun w455 hB456 hc457 => ?_)
            have hX458 : Ch (srB sr rv) w w455 := Ch.trans hX424 hc457 (fun _ _ h => .inl h)
            have hB459 := hB426.ch hc457 (fun (h : b11 = sr) => by have := hlo17; have := hS.blk.lt; omega)
            have hO460 := hO427.ch hc457 (fun b e (h : b = sr) => by have := hlo b e; have := hS.blk.lt; omega)
            have hA461 := hA428.ch hc457 (fun h => hS.ne h.symm) (fun h => hS.nd h.symm)
            have hB462 := hB422.ch hc457 (fun (h : b255 = sr) => by have := hlo261; have := hS.blk.lt; omega)
            replace hB456 : Blk w455 sr [pX rv, .bool false] _ := Blk.to hB456 (by kernel_rfl)
            refine ye ?_
            refine ysr ?_
            refine yp 1 [] (.a (hB462.cs 0 9) .z) ?_
            refine yo (yS hB459 fun w463 hB464 hc465 => ?_)
            have hX466 : Ch (srB sr rv) w w463 := Ch.trans hX458 hc465 (fun i hi (h : i = b11) => by have := hlo17; omega)
            have hO467 := hO460.ch hc465 (fun b e (h : b = b11) => hne2 b e h)
            have hA468 := hA461.ch hc465 (fun (h : rv = b11) => by have := hlo17; have := hS.rd.lt; omega) (fun (h : D = b11) => by have := hlo17; have := hS.rd.dlt; omega)
            have hB470 := hB456.ch hc465 (fun (h : sr = b11) => by have := hlo17; have := hS.blk.lt; omega)
            replace hB464 : Blk w463 b11 [iX x27, uX (mkU (bytI x291)).b0, uX (mkU (bytI x291)).b1, uX (mkU (bytI x291)).b2, iX (mkU (bytI x291)).n, .string x316, .slice (o.map at0) n cap, .string x409, iX x265] _ := Blk.to hB464 (by kernel_rfl)
            refine ye ?_
            refine x_ret (yR1c (.agg #[iX x27, uX (mkU (bytI x291)).b0, uX (mkU (bytI x291)).b1, uX (mkU (bytI x291)).b2, iX (mkU (bytI x291)).n, .string x316, .slice (o.map at0) n cap, .string x409, iX x265]) (.a (hB464.cs 0 9) .z) ?_)
            rw [parsR_eq hN29 hN267 hN293 hN318 hN336 hG.symm hN411] at hP
            simp only [Prod.mk.injEq] at hP
            obtain ⟨rfl, rfl, rfl⟩ := hP
            have hb471 : false = (fine && prightB (PS.mk x27 (mkU (bytI x291)) x316 l x409 x265)) := by rw [hfi]; rfl
            exact ⟨o, n, cap, rfl, hO467, hlo, ⟨by rw [← hb471]; exact hB470, hA468, hS.ne, hS.nd⟩, hX466⟩
  · refine x_seff 11 _ (by kernel_rfl) rfl (yN [iX 0, uX 0, uX 0, uX 0, iX 0, .string ByteArray.empty, .slice none 0 0, .string ByteArray.empty, iX 0] 41 fun w472 b473 hb474 hz475 hB476 hc477 => ?_)
    have hX478 : Ch (srB sr rv) w w472 := Ch.trans hX23 hc477 eZ
    have hlo479 : w.heap.size ≤ b473 := by rw [hb474]; exact Ch.size hX23
    have hB480 := hB24.ch hc477 id
    have hA481 := hA25.ch hc477 id id
    have hB482 := hB26.ch hc477 id
    refine x_heldB hc477 eZ ?_
    obtain ⟨x483, s484, hN485⟩ : ∃ x s', numR (8) s0 = (x, s') := ⟨_, _, rfl⟩
    have hbd488 := numR_bd (lim := 8) (s := s0)
    rw [hN485] at hbd488
    dsimp only at hbd488
    refine yH 4 (yQ (num_any (lim := 8) hA481 hN485 (by omega)) ?_)
    rintro w489 ⟨hA486, hc487⟩
    have hX490 : Ch (srB sr rv) w w489 := Ch.trans hX478 hc487 (fun _ _ h => .inr h)
    have hB491 := hB480.ch hc487 hS.ne
    have hB492 := hB482.ch hc487 (fun (h : b11 = rv) => by have := hlo17; have := hS.rd.lt; omega)
    have hB493 := hB476.ch hc487 (fun (h : b473 = rv) => by have := hlo479; have := hS.rd.lt; omega)
    refine x_heldB hc487 iZ ?_
    obtain ⟨x494, s495, hN496⟩ : ∃ x s', numR (8) s484 = (x, s') := ⟨_, _, rfl⟩
    have hbd499 := numR_bd (lim := 8) (s := s484)
    rw [hN496] at hbd499
    dsimp only at hbd499
    refine yK 9 (yQ (num_any (lim := 8) hA486 hN496 (by omega)) ?_)
    rintro w500 ⟨hA497, hc498⟩
    have hX501 : Ch (srB sr rv) w w500 := Ch.trans hX490 hc498 (fun _ _ h => .inr h)
    have hB502 := hB491.ch hc498 hS.ne
    have hB503 := hB492.ch hc498 (fun (h : b11 = rv) => by have := hlo17; have := hS.rd.lt; omega)
    have hB504 := hB493.ch hc498 (fun (h : b473 = rv) => by have := hlo479; have := hS.rd.lt; omega)
    refine x_killed ?_
    refine yd [10] [] .z ?_
    refine yK 12 (yS hB504 fun w505 hB506 hc507 => ?_)
    have hX508 : Ch (srB sr rv) w w505 := Ch.trans hX501 hc507 (fun i hi (h : i = b473) => by have := hlo479; omega)
    have hB509 := hB502.ch hc507 (fun (h : sr = b473) => by have := hlo479; have := hS.blk.lt; omega)
    have hB510 := hB503.ch hc507 (fun (h : b11 = b473) => by have := hB26.lt; omega)
    have hA511 := hA497.ch hc507 (fun (h : rv = b473) => by have := hlo479; have := hS.rd.lt; omega) (fun (h : D = b473) => by have := hlo479; have := hS.rd.dlt; omega)
    replace hB506 : Blk w505 b473 [iX x483, uX 0, uX 0, uX 0, iX 0, .string ByteArray.empty, .slice none 0 0, .string ByteArray.empty, iX x494] _ := Blk.to hB506 (by kernel_rfl)
    refine x_killed ?_
    refine yDe (nS ?_)
    refine ys ?_
    refine yD [7, 8, 11] fun w512 hH513 hc514 => ?_
    have hX515 : Ch (srB sr rv) w w512 := Ch.trans hX508 hc514 eZ
    have hB516 := hB509.ch hc514 id
    have hB517 := hB510.ch hc514 id
    have hA518 := hA511.ch hc514 id id
    have hB519 := hB506.ch hc514 id
    refine yd (uL 0 7) [] (.l (hB516.c 0) .z) ?_
    obtain ⟨x520, s521, hN522⟩ : ∃ x s', textR 3 s495 = (x, s') := ⟨_, _, rfl⟩
    refine yK 7 (yQ (text_anyR (most := 3) hA518 hN522 (by decide)) ?_)
    rintro w525 ⟨hA523, hc524⟩
    have hX526 : Ch (srB sr rv) w w525 := Ch.trans hX515 hc524 (fun _ _ h => .inr h)
    have hB527 := hB516.ch hc524 hS.ne
    have hB528 := hB517.ch hc524 (fun (h : b11 = rv) => by have := hlo17; have := hS.rd.lt; omega)
    have hB529 := hB519.ch hc524 (fun (h : b473 = rv) => by have := hlo479; have := hS.rd.lt; omega)
    have htb530 := textR_bd hN522 (by decide)
    refine x_killed ?_
    have hul : (bytI x520).length ≤ 3 := by rw [bytI_len]; omega
    refine yK 8 (e_copyS' b473 1 3 3 x520 (some 23) (mkU (bytI x520)).n (mkU_n x520) (by kernel_rfl) hB529 (by omega) (by simp only [List.length_cons, List.length_nil]; omega) ?_)
    intro w531 hB532 hc533
    rw [bytV_bytI, put_mkU hul] at hB532
    have hX534 : Ch (srB sr rv) w w531 := Ch.trans hX526 hc533 (fun i hi (h : i = b473) => by have := hlo479; omega)
    have hB535 := hB527.ch hc533 (fun (h : sr = b473) => by have := hlo479; have := hS.blk.lt; omega)
    have hB536 := hB528.ch hc533 (fun (h : b11 = b473) => by have := hB26.lt; omega)
    have hA537 := hA523.ch hc533 (fun (h : rv = b473) => by have := hlo479; have := hS.rd.lt; omega) (fun (h : D = b473) => by have := hlo479; have := hS.rd.dlt; omega)
    refine x_killed ?_
    refine yd [9, 10] [] .z ?_
    refine yK 11 (yS hB532 fun w538 hB539 hc540 => ?_)
    have hX541 : Ch (srB sr rv) w w538 := Ch.trans hX534 hc540 (fun i hi (h : i = b473) => by have := hlo479; omega)
    have hB542 := hB535.ch hc540 (fun (h : sr = b473) => by have := hlo479; have := hS.blk.lt; omega)
    have hB543 := hB536.ch hc540 (fun (h : b11 = b473) => by have := hB26.lt; omega)
    have hA544 := hA537.ch hc540 (fun (h : rv = b473) => by have := hlo479; have := hS.rd.lt; omega) (fun (h : D = b473) => by have := hlo479; have := hS.rd.dlt; omega)
    replace hB539 : Blk w538 b473 [iX x483, uX (mkU (bytI x520)).b0, uX (mkU (bytI x520)).b1, uX (mkU (bytI x520)).b2, iX (mkU (bytI x520)).n, .string ByteArray.empty, .slice none 0 0, .string ByteArray.empty, iX x494] _ := Blk.to hB539 (by kernel_rfl)
    refine x_killed ?_
    refine yDe (nS ?_)
    refine ysr ?_
    refine yp 4 [] (.l (hB542.c 0) .z) ?_
    obtain ⟨x545, s546, hN547⟩ : ∃ x s', textR 2 s521 = (x, s') := ⟨_, _, rfl⟩
    refine yo (yQ (text_anyR (most := 2) hA544 hN547 (by decide)) ?_)
    rintro w550 ⟨hA548, hc549⟩
    have hX551 : Ch (srB sr rv) w w550 := Ch.trans hX541 hc549 (fun _ _ h => .inr h)
    have hB552 := hB542.ch hc549 hS.ne
    have hB553 := hB543.ch hc549 (fun (h : b11 = rv) => by have := hlo17; have := hS.rd.lt; omega)
    have hB554 := hB539.ch hc549 (fun (h : b473 = rv) => by have := hlo479; have := hS.rd.lt; omega)
    have htb555 := textR_bd hN547 (by decide)
    refine yp 6 [] .z ?_
    refine yo (yS hB554 fun w556 hB557 hc558 => ?_)
    have hX559 : Ch (srB sr rv) w w556 := Ch.trans hX551 hc558 (fun i hi (h : i = b473) => by have := hlo479; omega)
    have hB560 := hB552.ch hc558 (fun (h : sr = b473) => by have := hlo479; have := hS.blk.lt; omega)
    have hB561 := hB553.ch hc558 (fun (h : b11 = b473) => by have := hB26.lt; omega)
    have hA562 := hA548.ch hc558 (fun (h : rv = b473) => by have := hlo479; have := hS.rd.lt; omega) (fun (h : D = b473) => by have := hlo479; have := hS.rd.dlt; omega)
    replace hB557 : Blk w556 b473 [iX x483, uX (mkU (bytI x520)).b0, uX (mkU (bytI x520)).b1, uX (mkU (bytI x520)).b2, iX (mkU (bytI x520)).n, .string x545, .slice none 0 0, .string ByteArray.empty, iX x494] _ := Blk.to hB557 (by kernel_rfl)
    refine ye ?_
    refine ys ?_
    refine ysr ?_
    refine yp 4 [] (.l (hB560.c 0) .z) ?_
    obtain ⟨x563, s564, hN565⟩ : ∃ x s', numR (9) s546 = (x, s') := ⟨_, _, rfl⟩
    have hbd568 := numR_bd (lim := 9) (s := s546)
    rw [hN565] at hbd568
    dsimp only at hbd568
    refine yo (yQ (num_any (lim := 9) hA562 hN565 (by omega)) ?_)
    rintro w569 ⟨hA566, hc567⟩
    have hX570 : Ch (srB sr rv) w w569 := Ch.trans hX559 hc567 (fun _ _ h => .inr h)
    have hB571 := hB560.ch hc567 hS.ne
    have hB572 := hB561.ch hc567 (fun (h : b11 = rv) => by have := hlo17; have := hS.rd.lt; omega)
    have hB573 := hB557.ch hc567 (fun (h : b473 = rv) => by have := hlo479; have := hS.rd.lt; omega)
    refine yp 6 [] .z ?_
    refine ye ?_
    refine x_block ?_
    refine ykeep [0, 2, 3, 36, 37] (f' := [(0, pX sr), (2, pX b11), (3, pX b473), (36, iX x563), (37, iX 0)]) ?_
    refine x_loop (σ := Nat × List Int × Option Nat × Nat × Nat × RS) (fun ⟨k, l, o, n, cap, s⟩ => [(0, pX sr), (2, pX b11), (3, pX b473), (36, iX x563), (37, iX ((k : Nat) : Int))]) (fun ⟨k, l, o, n, cap, s⟩ u => k ≤ (x563 : Int).toNat ∧ numsF ((x563 : Int).toNat - k) l s = numsF (x563 : Int).toNat [] s564 ∧ Own u tI 1 o n cap (l.map (Value.int .i64)) ∧ (∀ b, o = some b → w.heap.size ≤ b) ∧ (∀ b, o = some b → ¬ b = b473) ∧ (∀ b, o = some b → ¬ b = b11) ∧ n ≤ k ∧ Blk u sr [pX rv, .bool fine] tSr ∧ Blk u b473 [iX x483, uX (mkU (bytI x520)).b0, uX (mkU (bytI x520)).b1, uX (mkU (bytI x520)).b2, iX (mkU (bytI x520)).n, .string x545, .slice (o.map at0) n cap, .string ByteArray.empty, iX x494] 41 ∧ Blk u b11 [iX 0, uX 0, uX 0, uX 0, iX 0, .string ByteArray.empty, .slice none 0 0, .string ByteArray.empty, iX 0] 41 ∧ RdrAt u rv D s ∧ Ch (srB sr rv) w u) (fun ⟨k, l, o, n, cap, s⟩ => (x563 : Int).toNat - k) (0, [], none, 0, 0, s564) rfl ?_ ?_
    · exact ⟨Nat.zero_le _, rfl, Own.nil _ _ _, (fun b e => by cases e), (fun b e => by cases e), (fun b e => by cases e), Nat.le_refl _, hB571, hB573, hB572, hA566, hX570⟩
    · intro p w574 hI575 K576 hL577
      obtain ⟨k, l, o, n, cap, s⟩ := p
      obtain ⟨hk, hG, hO, hlo, hne3, hne2, hnk, hB, hB3, hB2, hR, hcx⟩ := hI575
      have hnc : n ≤ cap := hO.2.1
      have hll : l.length = n := by have h := hO.1; simpa using h
      refine ysr ?_
      refine yp 1 [] .z ?_
      refine ye ?_
      refine ys ?_
      refine yc (rL ((k : Nat) : Int) x563) (fun hC578 => ?_) fun hC578 => ?_
      · have hkH := hC578
        have hkt : (x563 : Int).toNat - k = ((x563 : Int).toNat - (k + 1)) + 1 := by omega
        rw [hkt, numsF] at hG
        refine yk ?_
        refine ys ?_
        refine x_block ?_
        refine x_drawnB (fun j => j = rv) [8, 10] (by kernel_rfl) (fun w579 hH580 hc581 => ?_)
        have hX582 : Ch (srB sr rv) w w579 := Ch.trans hcx hc581 eZ
        have hB583 := hB.ch hc581 id
        have hB584 := hB2.ch hc581 id
        have hB585 := hB3.ch hc581 id
        have hA586 := hR.ch hc581 id id
        have hO587 := hO.ch hc581 iZ
        refine ydC (uL 0 6) [] (fun u hu => (.l (cell_ch hu (hB585.c 6) (fun (h : b473 = rv) => by have := hlo479; have := hS.rd.lt; omega)) (.l (cell_ch hu (hB583.c 0) hS.ne) .z))) ?_
        obtain ⟨x588, s589, hN590⟩ : ∃ x s', numR (10000) s = (x, s') := ⟨_, _, rfl⟩
        have hbd593 := numR_bd (lim := 10000) (s := s)
        rw [hN590] at hbd593
        dsimp only at hbd593
        refine yH 6 (yQ (num_any (lim := 10000) hA586 hN590 (by omega)) ?_)
        rintro w594 ⟨hA591, hc592⟩
        have hX595 : Ch (srB sr rv) w w594 := Ch.trans hX582 hc592 (fun _ _ h => .inr h)
        have hB596 := hB583.ch hc592 hS.ne
        have hB597 := hB584.ch hc592 (fun (h : b11 = rv) => by have := hlo17; have := hS.rd.lt; omega)
        have hB598 := hB585.ch hc592 (fun (h : b473 = rv) => by have := hlo479; have := hS.rd.lt; omega)
        have hO599 := hO587.ch hc592 (fun b e (h : b = rv) => by have := hlo b e; have := hS.rd.lt; omega)
        refine x_heldB hc592 iZ ?_
        refine yH 7 (yB [iX x588] 3 1 fun w600 b601 hb602 hz603 hB604 hc605 => ?_)
        have hbn606 : ∀ b', o = some b' → ¬ b' = b601 := fun b' e => by have := hO599.ltOf e; omega
        have hX607 : Ch (srB sr rv) w w600 := Ch.trans hX595 hc605 eZ
        have hlo608 : w.heap.size ≤ b601 := by rw [hb602]; exact Ch.size hX595
        have hB609 := hB596.ch hc605 id
        have hB610 := hB597.ch hc605 id
        have hB611 := hB598.ch hc605 id
        have hO612 := hO599.ch hc605 iZ
        have hA613 := hA591.ch hc605 id id
        refine x_heldB hc605 eZ ?_
        refine yK 8 (e_app' 3 1 8 o n cap (l.map (Value.int .i64)) (some ⟨b601, 0, none⟩) 1 1 [iX x588] (some 47) (n + 1) rfl ((l ++ [x588]).map (Value.int .i64)) (by rw [List.map_append]; rfl) (by kernel_rfl) hO612 (Rd.all hB604) rfl rfl (fun h => by cases h) (by constructor <;> first | omega | (simp only [maxLen]; omega)) ?_)
        intro w614 og615 cp616 hO617 hne618 hpos619 hc620
        have hA621 := App.of hne618 hc620
        have hlo622 : ∀ b, og615 = some b → w.heap.size ≤ b := fun b e => by
          rcases hne618 with h | ⟨g', h, h'⟩
          · exact hlo b (h ▸ e)
          · rw [h] at e; have := Option.some.inj e; have := Ch.size hX607; omega
        have hbn623 := hA621.apart hB611.lt hne3
        have hbn624 := hA621.apart hB610.lt hne2
        have hX625 : Ch (srB sr rv) w w614 := Ch.trans hX607 hc620 (fun i hi h => by have := hlo _ h; omega)
        have hB626 := hB609.ch hc620 (fun h => by have := hlo _ h; have := hS.blk.lt; omega)
        have hB627 := hB610.ch hc620 (fun h => hne2 _ h rfl)
        have hB628 := hB611.ch hc620 (fun h => hne3 _ h rfl)
        have hA629 := hA613.ch hc620 (fun h => by have := hlo _ h; have := hS.rd.lt; omega) (fun h => by have := hlo _ h; have := hS.rd.dlt; omega)
        refine x_killed ?_
        refine yd [9] [] .z ?_
        refine yK 10 (yS hB628 fun w630 hB631 hc632 => ?_)
        have hX633 : Ch (srB sr rv) w w630 := Ch.trans hX625 hc632 (fun i hi (h : i = b473) => by have := hlo479; omega)
        have hB634 := hB626.ch hc632 (fun (h : sr = b473) => by have := hlo479; have := hS.blk.lt; omega)
        have hB635 := hB627.ch hc632 (fun (h : b11 = b473) => by have := hB26.lt; omega)
        have hA636 := hA629.ch hc632 (fun (h : rv = b473) => by have := hlo479; have := hS.rd.lt; omega) (fun (h : D = b473) => by have := hlo479; have := hS.rd.dlt; omega)
        have hO637 := hO617.ch hc632 (fun b e (h : b = b473) => hbn623 b e h)
        replace hB631 : Blk w630 b473 [iX x483, uX (mkU (bytI x520)).b0, uX (mkU (bytI x520)).b1, uX (mkU (bytI x520)).b2, iX (mkU (bytI x520)).n, .string x545, .slice (og615.map at0) (n + 1) cp616, .string ByteArray.empty, iX x494] _ := Blk.to hB631 (by kernel_rfl)
        refine x_killed ?_
        refine yDe (nB (nS ?_))
        refine x_region ?_
        refine yp 2 [] (.q6 (((k : Nat) : Int) + 1) .z) ?_
        rw [hN590] at hG
        refine yE (fun a ha => hL577 (k + 1, (l ++ [x588]), og615, (n + 1), cp616, s589) _ ⟨by omega, hG, hO637, hlo622, hbn623, hbn624, by omega, hB634, hB631, hB635, hA636, hX633⟩ (by show (x563 : Int).toNat - (k + 1) < (x563 : Int).toNat - k; omega) a (ha.kp [0, 2, 3, 36, 37]))
      · have hkH := hC578
        have hkt : (x563 : Int).toNat - k = 0 := by omega
        rw [hkt, numsF] at hG
        refine x_exit (eS (then_exit (block_exit (nS ?_))))
        refine ysr ?_
        refine yp 4 [] (.l (hB.c 0) .z) ?_
        obtain ⟨x638, s639, hN640⟩ : ∃ x s', textR 40 s = (x, s') := ⟨_, _, rfl⟩
        refine yo (yQ (text_anyR (most := 40) hR hN640 (by decide)) ?_)
        rintro w643 ⟨hA641, hc642⟩
        have hX644 : Ch (srB sr rv) w w643 := Ch.trans hcx hc642 (fun _ _ h => .inr h)
        have hB645 := hB.ch hc642 hS.ne
        have hB646 := hB2.ch hc642 (fun (h : b11 = rv) => by have := hlo17; have := hS.rd.lt; omega)
        have hB647 := hB3.ch hc642 (fun (h : b473 = rv) => by have := hlo479; have := hS.rd.lt; omega)
        have hO648 := hO.ch hc642 (fun b e (h : b = rv) => by have := hlo b e; have := hS.rd.lt; omega)
        have htb649 := textR_bd hN640 (by decide)
        refine yp 6 [] .z ?_
        refine yo (yS hB647 fun w650 hB651 hc652 => ?_)
        have hX653 : Ch (srB sr rv) w w650 := Ch.trans hX644 hc652 (fun i hi (h : i = b473) => by have := hlo479; omega)
        have hB654 := hB645.ch hc652 (fun (h : sr = b473) => by have := hlo479; have := hS.blk.lt; omega)
        have hB655 := hB646.ch hc652 (fun (h : b11 = b473) => by have := hB26.lt; omega)
        have hO656 := hO648.ch hc652 (fun b e (h : b = b473) => hne3 b e h)
        have hA657 := hA641.ch hc652 (fun (h : rv = b473) => by have := hlo479; have := hS.rd.lt; omega) (fun (h : D = b473) => by have := hlo479; have := hS.rd.dlt; omega)
        replace hB651 : Blk w650 b473 [iX x483, uX (mkU (bytI x520)).b0, uX (mkU (bytI x520)).b1, uX (mkU (bytI x520)).b2, iX (mkU (bytI x520)).n, .string x545, .slice (o.map at0) n cap, .string x638, iX x494] _ := Blk.to hB651 (by kernel_rfl)
        refine ye ?_
        refine ysr ?_
        refine yp 6 [] (.l (hB654.c 1) .z) ?_
        refine yw [61] (rY fine) (fun hC658 => ?_) fun hC658 => ?_
        · have hfi := hC658
          refine yp 7 [] (.a (hB651.cs 0 9) .z) ?_
          refine yo (yQ (rightE (PS.mk x483 (mkU (bytI x520)) x545 l x638 x494) (o.map at0) n cap _ (utabs_ch hX653 hU (fun h => h.elim (fun (h : gFirst = sr) => by have := u_lt; omega) (fun (h : gFirst = rv) => by have := u_lt; omega)) (fun h => h.elim (fun (h : gAcc = sr) => by have := u_lt; omega) (fun (h : gAcc = rv) => by have := u_lt; omega))) (mkU_ok (bytI_byts _) hul) hO656.rd hll (by cases ho : o with | none => rw [ho] at hO; exact .inl (hO.2.2.2.1 rfl).1 | some b => exact .inr ⟨b, 0, rfl⟩) (by omega) (by dsimp only; omega)) fun w660 hc659 => ?_)
          have hX661 : Ch (srB sr rv) w w660 := Ch.trans hX653 hc659 eZ
          have hB662 := hB654.ch hc659 id
          have hB663 := hB655.ch hc659 id
          have hO664 := hO656.ch hc659 iZ
          have hA665 := hA657.ch hc659 id id
          have hB666 := hB651.ch hc659 id
          refine yp 11 [] .z ?_
          refine yo (yS hB662 fun w667 hB668 hc669 => ?_)
          have hX670 : Ch (srB sr rv) w w667 := Ch.trans hX661 hc669 (fun _ _ h => .inl h)
          have hB671 := hB663.ch hc669 (fun (h : b11 = sr) => by have := hlo17; have := hS.blk.lt; omega)
          have hO672 := hO664.ch hc669 (fun b e (h : b = sr) => by have := hlo b e; have := hS.blk.lt; omega)
          have hA673 := hA665.ch hc669 (fun h => hS.ne h.symm) (fun h => hS.nd h.symm)
          have hB674 := hB666.ch hc669 (fun (h : b473 = sr) => by have := hlo479; have := hS.blk.lt; omega)
          replace hB668 : Blk w667 sr [pX rv, .bool (prightB (PS.mk x483 (mkU (bytI x520)) x545 l x638 x494))] _ := Blk.to hB668 (by kernel_rfl)
          refine ye ?_
          refine ysr ?_
          refine yp 1 [] (.a (hB674.cs 0 9) .z) ?_
          refine yo (yS hB671 fun w675 hB676 hc677 => ?_)
          have hX678 : Ch (srB sr rv) w w675 := Ch.trans hX670 hc677 (fun i hi (h : i = b11) => by have := hlo17; omega)
          have hO679 := hO672.ch hc677 (fun b e (h : b = b11) => hne2 b e h)
          have hA680 := hA673.ch hc677 (fun (h : rv = b11) => by have := hlo17; have := hS.rd.lt; omega) (fun (h : D = b11) => by have := hlo17; have := hS.rd.dlt; omega)
          have hB682 := hB668.ch hc677 (fun (h : sr = b11) => by have := hlo17; have := hS.blk.lt; omega)
          replace hB676 : Blk w675 b11 [iX x483, uX (mkU (bytI x520)).b0, uX (mkU (bytI x520)).b1, uX (mkU (bytI x520)).b2, iX (mkU (bytI x520)).n, .string x545, .slice (o.map at0) n cap, .string x638, iX x494] _ := Blk.to hB676 (by kernel_rfl)
          refine ye ?_
          refine x_ret (yR1c (.agg #[iX x483, uX (mkU (bytI x520)).b0, uX (mkU (bytI x520)).b1, uX (mkU (bytI x520)).b2, iX (mkU (bytI x520)).n, .string x545, .slice (o.map at0) n cap, .string x638, iX x494]) (.a (hB676.cs 0 9) .z) ?_)
          rw [parsR_eq hN485 hN496 hN522 hN547 hN565 hG.symm hN640] at hP
          simp only [Prod.mk.injEq] at hP
          obtain ⟨rfl, rfl, rfl⟩ := hP
          have hb683 : (prightB (PS.mk x483 (mkU (bytI x520)) x545 l x638 x494)) = (fine && prightB (PS.mk x483 (mkU (bytI x520)) x545 l x638 x494)) := by rw [hfi]; rfl
          exact ⟨o, n, cap, rfl, hO679, hlo, ⟨by rw [← hb683]; exact hB682, hA680, hS.ne, hS.nd⟩, hX678⟩
        · have hfi := hC658
          refine yp 11 [] .z ?_
          refine yo (yS hB654 fun w684 hB685 hc686 => ?_)
          have hX687 : Ch (srB sr rv) w w684 := Ch.trans hX653 hc686 (fun _ _ h => .inl h)
          have hB688 := hB655.ch hc686 (fun (h : b11 = sr) => by have := hlo17; have := hS.blk.lt; omega)
          have hO689 := hO656.ch hc686 (fun b e (h : b = sr) => by have := hlo b e; have := hS.blk.lt; omega)
          have hA690 := hA657.ch hc686 (fun h => hS.ne h.symm) (fun h => hS.nd h.symm)
          have hB691 := hB651.ch hc686 (fun (h : b473 = sr) => by have := hlo479; have := hS.blk.lt; omega)
          replace hB685 : Blk w684 sr [pX rv, .bool false] _ := Blk.to hB685 (by kernel_rfl)
          refine ye ?_
          refine ysr ?_
          refine yp 1 [] (.a (hB691.cs 0 9) .z) ?_
          refine yo (yS hB688 fun w692 hB693 hc694 => ?_)
          have hX695 : Ch (srB sr rv) w w692 := Ch.trans hX687 hc694 (fun i hi (h : i = b11) => by have := hlo17; omega)
          have hO696 := hO689.ch hc694 (fun b e (h : b = b11) => hne2 b e h)
          have hA697 := hA690.ch hc694 (fun (h : rv = b11) => by have := hlo17; have := hS.rd.lt; omega) (fun (h : D = b11) => by have := hlo17; have := hS.rd.dlt; omega)
          have hB699 := hB685.ch hc694 (fun (h : sr = b11) => by have := hlo17; have := hS.blk.lt; omega)
          replace hB693 : Blk w692 b11 [iX x483, uX (mkU (bytI x520)).b0, uX (mkU (bytI x520)).b1, uX (mkU (bytI x520)).b2, iX (mkU (bytI x520)).n, .string x545, .slice (o.map at0) n cap, .string x638, iX x494] _ := Blk.to hB693 (by kernel_rfl)
          refine ye ?_
          refine x_ret (yR1c (.agg #[iX x483, uX (mkU (bytI x520)).b0, uX (mkU (bytI x520)).b1, uX (mkU (bytI x520)).b2, iX (mkU (bytI x520)).n, .string x545, .slice (o.map at0) n cap, .string x638, iX x494]) (.a (hB693.cs 0 9) .z) ?_)
          rw [parsR_eq hN485 hN496 hN522 hN547 hN565 hG.symm hN640] at hP
          simp only [Prod.mk.injEq] at hP
          obtain ⟨rfl, rfl, rfl⟩ := hP
          have hb700 : false = (fine && prightB (PS.mk x483 (mkU (bytI x520)) x545 l x638 x494)) := by rw [hfi]; rfl
          exact ⟨o, n, cap, rfl, hO696, hlo, ⟨by rw [← hb700]; exact hB699, hA697, hS.ne, hS.nd⟩, hX695⟩
end Go.Proofs.YtclnfbmmaofpjaaDoor.X
