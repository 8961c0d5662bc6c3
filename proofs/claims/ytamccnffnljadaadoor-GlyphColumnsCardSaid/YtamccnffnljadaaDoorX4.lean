/- Operations that change memory, calls; code; the beginning and the end of a function. -/
import Derived.Test.YtamccnffnljadaaDoorX3
import Derived.Laws.CopyRow
import Derived.Laws.AppendOwn
import Derived.Deep.LoopGhost
namespace Go.Proofs.YtamccnffnljadaaDoor.X
open Go Go.RowKit

theorem of_ble {a b : Nat} (h : Nat.ble a b = true) : a ≤ b := Nat.le_of_ble_eq_true h
theorem c_nil {w : World} : AllC [] w := trivial
theorem c_cons {c : World → Prop} {cs : List (World → Prop)} {w : World} (h : c w) (hs : AllC cs w) : AllC (c :: cs) w := ⟨h, hs⟩
theorem c_eq {cs : List (World → Prop)} {w : World} (h : AllC cs w) : ∀ u, u = w → AllC cs u := fun _ e => e ▸ h
theorem in64 {n : Int} (h : -9223372036854775808 ≤ n) (h' : n ≤ 9223372036854775807) : InR .i64 n := ⟨h, h'⟩
theorem in32 {n : Int} (h : -2147483648 ≤ n) (h' : n ≤ 2147483647) : InR .i32 n := ⟨h, h'⟩
theorem in8 {n : Int} (h : 0 ≤ n) (h' : n ≤ 255) : InR .u8 n := ⟨h, h'⟩
theorem in_u32 {n : Int} (h : 0 ≤ n) (h' : n ≤ 4294967295) : InR .u32 n := ⟨h, h'⟩
theorem in_u64 {n : Int} (h : 0 ≤ n) (h' : n ≤ 18446744073709551615) : InR .u64 n := ⟨h, h'⟩
theorem not_t {b : Bool} (h : (!b) = true) : b = false := by cases b <;> simp_all
theorem not_f {b : Bool} (h : (!b) = false) : b = true := by cases b <;> simp_all

/-! ### What became of a world -/
/-- 'w'' is 'w' but for the blocks of 'B' and new ones. -/
structure Ch (B : Nat → Prop) (w w' : World) : Prop where
  os : w'.os = w.os
  tape : w'.tape = w.tape
  output : w'.output = w.output
  size : w.heap.size ≤ w'.heap.size
  block : ∀ k, k < w.heap.size → ¬ B k → w'.heap[k]? = w.heap[k]?
theorem Ch.refl (B : Nat → Prop) (w : World) : Ch B w w := ⟨rfl, rfl, rfl, Nat.le_refl _, fun _ _ _ => rfl⟩
theorem Ch.trans {B B' : Nat → Prop} {a b c : World} (h : Ch B a b) (k : Ch B' b c) (hB : ∀ i, i < a.heap.size → B' i → B i) : Ch B a c :=
  ⟨k.os.trans h.os, k.tape.trans h.tape, k.output.trans h.output, Nat.le_trans h.size k.size,
    fun i hi hn => (k.block i (Nat.lt_of_lt_of_le hi h.size) fun hb => hn (hB i hi hb)).trans (h.block i hi hn)⟩
theorem Ch.mono {B B' : Nat → Prop} {a b : World} (h : Ch B a b) (hB : ∀ i, i < a.heap.size → B i → B' i) : Ch B' a b :=
  ⟨h.os, h.tape, h.output, h.size, fun i hi hn => h.block i hi fun hb => hn (hB i hi hb)⟩
theorem Ch.below {B : Nat → Prop} {a b : World} (h : Ch B a b) (hB : ∀ i, i < a.heap.size → ¬ B i) : Below a.heap.size a b :=
  ⟨h.os, h.tape, h.output, h.size, fun i hi => h.block i hi (hB i hi)⟩
theorem Ch.of_below {a b : World} (h : Below a.heap.size a b) (B : Nat → Prop) : Ch B a b := ⟨h.os, h.tape, h.output, h.size, fun i hi _ => h.block i hi⟩
theorem Ch.drew (B : Nat → Prop) (w : World) : Ch B w w.drew := ⟨rfl, rfl, rfl, Nat.le_refl _, fun _ _ _ => rfl⟩
theorem Ch.alloc (B : Nat → Prop) (w : World) (o : Obj) : Ch B w (w.alloc o) := by
  refine ⟨rfl, rfl, rfl, by show _ ≤ (w.heap.push o).size; simp, fun k hk _ => ?_⟩
  show (w.heap.push o)[k]? = _
  simp [Array.getElem?_push, Nat.ne_of_lt hk]
theorem Ch.setRow (w : World) (g : Nat) (cs : Array Value) : Ch (fun k => k = g) w (w.setRow g cs) := by
  refine ⟨rfl, rfl, rfl, by simp [World.setRow], fun k hk hn => ?_⟩
  simp [World.setRow, Array.getElem?_modify, Ne.symm hn]
theorem Ch.grown {w w' : World} {row : Option Nat} (h : w.grownBy w' row) : Ch (fun k => some k = row) w w' := ⟨h.os, h.tape, h.output, h.size, fun k hk hn => h.block k hk hn⟩

/-- A block of cells, whole. -/
def Blk (w : World) (b : Nat) (cs : List Value) (T : TypeId) : Prop := w.heap[b]? = some (.cells cs.toArray T (0, 0))
theorem Blk.lt {w : World} {b : Nat} {cs : List Value} {T : TypeId} (h : Blk w b cs T) : b < w.heap.size := (Array.getElem?_eq_some_iff.1 h).1
theorem Blk.ch {w w' : World} {b : Nat} {cs : List Value} {T : TypeId} {B : Nat → Prop} (h : Blk w b cs T) (hc : Ch B w w') (hn : ¬ B b) : Blk w' b cs T := (hc.block b h.lt hn).trans h
theorem Blk.cell {w : World} {b : Nat} {cs : List Value} {T : TypeId} (h : Blk w b cs T) (i : Nat) : w.cell? ⟨b, i, none⟩ = cs[i]? := by
  simp [World.cell?, show w.heap[b]? = some (.cells cs.toArray T (0, 0)) from h]
theorem Blk.new (w : World) (cs : List Value) (T : TypeId) : Blk (w.alloc (.cells cs.toArray T (0, 0))) w.heap.size cs T := by
  show (w.heap.push _)[w.heap.size]? = _
  simp
theorem Blk.inj {w : World} {b : Nat} {cs cs' : List Value} {T T' : TypeId} (h : Blk w b cs T) (h' : Blk w b cs' T') : cs = cs' ∧ T = T' := by
  have := Option.some.inj (Eq.trans (Eq.symm h) h')
  simp at this
  exact this
/-- Cells from a place on are others. -/
def put (cs : List Value) (o : Nat) (vs : List Value) : List Value := cs.take o ++ vs ++ cs.drop (o + vs.length)
theorem Blk.set {w : World} {b : Nat} {cs : List Value} {T : TypeId} (h : Blk w b cs T) (cs' : List Value) : Blk (w.setRow b cs'.toArray) b cs' T := setRow_heap w b _ _ T (0, 0) h

/-! ### Effects -/
def opAt (N : Nat) (ops : Array Oper) (f : Fr) (k : Nat) : Option (Op × Option Tmp) :=
  match ops[k]? with
  | some o => if dstOk N o.dst then
      match wantR f ops o with
      | some true => some (o.op, o.dst)
      | _ => none
    else none
  | none => none
theorem opAt_wp {P : Program} {N : Nat} {ops : Array Oper} {Q : Exit → Act → World → Prop} {f : Fr} {k : Nat} {op : Op} {d : Option Tmp} {K : Act → World → Prop} {a : Act} {w : World}
    (h : opAt N ops f k = some (op, d)) (ha : Has N f a) (hr : ∀ o : Oper, o.op = op → o.dst = d → dstOk N d = true → o.wp P a w K Q) : wpOp P ops Q k K a w := by
  unfold opAt at h
  unfold wpOp
  cases ho : ops[k]? with
  | none => rw [ho] at h; cases h
  | some o =>
    rw [ho] at h
    simp only at h ⊢
    split at h
    · rename_i hd
      split at h
      · rename_i hw
        simp only [Option.some.injEq, Prod.mk.injEq] at h
        rw [if_pos (wantR_ok hw ha)]
        exact .inl (hr o h.1 h.2 (h.2 ▸ hd))
      · cases h
    · cases h

section
variable {P : Program} {N : Nat} {ops : Array Oper} {Q : Exit → Act → World → Prop} {f : Fr} {k : Nat} {d : Option Tmp} {K : Act → World → Prop} {w : World}

theorem eff_store {t : TypeId} {x y : Operand} {b o : Nat} {v : Value} {cs : List Value} {T : TypeId}
    (ho : opAt N ops f k = some (.store t x y, d)) (hx : ev f x = some (.pointer (some ⟨b, o, none⟩))) (hy : ev f y = some v) (hsz : szOf P t = some v.cells.size) (h1 : (v.cells.toList.all fun c => c.oneCell') = true)
    (hb : Blk w b cs T) (hfit : o + v.cells.size ≤ cs.length) (hK : ∀ w', Blk w' b (put cs o v.cells.toList) T → Ch (fun k => k = b) w w' → ∀ a', Has N (pushd d undef f) a' → K a' w') : ∀ a, Has N f a → wpOp P ops Q k K a w := by
  intro a ha
  refine opAt_wp ho ha fun o' hop hd hdk => ?_
  have hrun : (storeVar t ⟨b, o, none⟩ v).run P w = .ok () (w.setRow b (put cs o v.cells.toList).toArray) := by
    have := run_storeCells_at P b o T v.cells.toList 0 cs.toArray w hb (by simpa using hfit) (fun u hu => List.all_eq_true.1 h1 u hu)
    simp only [storeVar, Sem.run_bind, run_sz hsz, Result.andThen_ok]
    simp only [ne_eq, not_true_eq_false, if_false]
    simpa [put] using this
  have : (execOp a.eval o').run P w = .ok .skip (w.setRow b (put cs o v.cells.toList).toArray) := by
    simp [execOp, hop, ev_eval ha hx, ev_eval ha hy, Instr.storeAt, Instr.sureAddr, hrun]
  simp only [Oper.wp, this, Oper.upon]
  rw [hd]
  exact hK _ (hb.set _) (Ch.setRow _ _ _) _ (ha.pushd hdk undef)

theorem eff_alloc {t : TypeId} {z : Value} (ho : opAt N ops f k = some (.alloc t, d)) (hz : (P.info? t).bind (·.zero) = some z)
    (hK : ∀ w' b, b = w.heap.size → w'.heap.size = w.heap.size + 1 → Blk w' b z.cells.toList t → Ch (fun _ => False) w w' → ∀ a', Has N (pushd d (.pointer (some ⟨b, 0, none⟩)) f) a' → K a' w') : ∀ a, Has N f a → wpOp P ops Q k K a w := by
  intro a ha
  refine opAt_wp ho ha fun o' hop hd hdk => ?_
  have : (execOp a.eval o').run P w = .ok (.value (.pointer (some ⟨w.heap.size, 0, none⟩))) (w.alloc (.cells z.cells t (0, 0))) := by
    simp [execOp, hop, Instr.alloc, run_zero hz, newVar, newRow]
  simp only [Oper.wp, this, Oper.upon]
  rw [hd]
  exact hK _ _ rfl (by show (w.heap.push _).size = _; simp) (Blk.new w z.cells.toList t) (Ch.alloc _ _ _) _ (ha.pushd hdk _)
theorem eff_box {t : TypeId} {x : Operand} {v : Value} (ho : opAt N ops f k = some (.box t x, d)) (hx : ev f x = some v)
    (hK : ∀ w' b, b = w.heap.size → w'.heap.size = w.heap.size + 1 → Blk w' b v.cells.toList t → Ch (fun _ => False) w w' → ∀ a', Has N (pushd d (.pointer (some ⟨b, 0, none⟩)) f) a' → K a' w') : ∀ a, Has N f a → wpOp P ops Q k K a w := by
  intro a ha
  refine opAt_wp ho ha fun o' hop hd hdk => ?_
  have : (execOp a.eval o').run P w = .ok (.value (.pointer (some ⟨w.heap.size, 0, none⟩))) (w.alloc (.cells v.cells t (0, 0))) := by
    simp [execOp, hop, Instr.box, ev_eval ha hx, newVar, newRow]
  simp only [Oper.wp, this, Oper.upon]
  rw [hd]
  exact hK _ _ rfl (by show (w.heap.push _).size = _; simp) (Blk.new w v.cells.toList t) (Ch.alloc _ _ _) _ (ha.pushd hdk _)

/-- May a function be called? (it has a body) -/
def callable (P : Program) (g : FuncId) : Bool :=
  match P.funcs[g]? with
  | some fn => fn.name != "runtime.NumGoroutine" && fn.body.isSome
  | none => false
theorem eff_call {g : FuncId} {args : Array Operand} {tys : Array TypeId} {vs : List Value} {R : Ending → World → Prop}
    (ho : opAt N ops f k = some (.call ⟨.value (.func g), args, tys⟩, d)) (hg : callable P g = true) (hv : evs f args.toList = some vs) (hc : Calls P g vs.toArray w R)
    (hK : ∀ e w', R e w' → ∃ v, e = .returned v ∧ ∀ a', Has N (pushd d v f) a' → K a' w') : ∀ a, Has N f a → wpOp P ops Q k K a w := by
  intro a ha
  refine opAt_wp ho ha fun o' hop hd hdk => ?_
  unfold callable at hg
  cases hf : P.funcs[g]? with
  | none => rw [hf] at hg; cases hg
  | some fn =>
    rw [hf] at hg
    simp only [Bool.and_eq_true, bne_iff_ne] at hg
    have : (execOp a.eval o').run P w = .ok (.enter g vs.toArray) w := by
      have e := evs_array ha hv
      have hn : fn.body.isNone = false := by cases hb : fn.body <;> simp_all
      simp [execOp, hop, resolve, e, Deferred.ofValue, Act.eval, invoke, callFunc, hf, hg.1]
      intro h; rw [h] at hn; cases hn
    simp only [Oper.wp, this, Oper.upon]
    rw [hd]
    refine Calls.mono hc fun e w' he => ?_
    obtain ⟨v, rfl, h⟩ := hK e w' he
    exact h _ (ha.pushd hdk v)

/-- The cells of a slice that is written out. -/
def bsv (P : Program) (t : TypeId) (len : Nat) (ps : List (Nat × Value)) : Option (List Value × TypeId) :=
  match P.underlying t with
  | some (.slice e) => match szOf P e, (P.info? e).bind (·.zero) with
    | some s, some z => if len * s ≤ 16777216 ∧ 0 < len * s then
        match Instr.fill (fun i => some (i * s, s)) ((Array.range (len * s)).map (z.cells[· % z.cells.size]!)) ps with
        | some cs => some (cs.toList, e)
        | none => none
      else none
    | _, _ => none
  | _ => none
theorem eff_buildSlice {t e : TypeId} {len : Nat} {parts : Array (Nat × Operand)} {ps : List (Nat × Value)} {cs : List Value} (ho : opAt N ops f k = some (.buildSlice t len parts, d)) (hp : evp f parts.toList = some ps)
    (hb : bsv P t len ps = some (cs, e))
    (hK : ∀ w' b, b = w.heap.size → w'.heap.size = w.heap.size + 1 → Blk w' b cs e → Ch (fun _ => False) w w' → ∀ a', Has N (pushd d (.slice (some ⟨b, 0, none⟩) len len) f) a' → K a' w') : ∀ a, Has N f a → wpOp P ops Q k K a w := by
  intro a ha
  refine opAt_wp ho ha fun o' hop hd hdk => ?_
  unfold bsv at hb
  split at hb
  · rename_i e' hu
    split at hb
    · rename_i s z hs hz
      split at hb
      · rename_i hlen
        split at hb
        · rename_i cs' hf
          simp only [Option.some.injEq, Prod.mk.injEq] at hb
          obtain ⟨rfl, rfl⟩ := hb
          have ee : (parts.map fun (i, x) => (i, a.eval x)) = ps.toArray := by
            apply Array.toList_inj.1
            simpa using evp_eval ha hp
          have hn0 : ¬ len * s = 0 := by omega
          have hn1 : ¬ len * s > 2 ^ 24 := by omega
          have : (execOp a.eval o').run P w = .ok (.value (.slice (some ⟨w.heap.size, 0, none⟩) len len)) (w.alloc (.cells cs' e' (0, 0))) := by
            simp only [execOp, hop]
            rw [ee]
            simp only [Instr.buildSlice, Sem.run_bind, run_und hu, Result.andThen_ok, run_sz hs, if_neg hn0, if_neg hn1, run_zero hz, Sem.run_pure, hf, newRow]
            rfl
          simp only [Oper.wp, this, Oper.upon]
          rw [hd]
          exact hK _ _ rfl (by show (w.heap.push _).size = _; simp) (Blk.new w cs'.toList e') (Ch.alloc _ _ _) _ (ha.pushd hdk _)
        · cases hb
      · cases hb
    · cases hb
  · cases hb
end

/-! The same, with all that the operation tells in one place. -/
section
variable {P : Program} {N : Nat} {ops : Array Oper} {Q : Exit → Act → World → Prop} {f : Fr} {k : Nat} {K : Act → World → Prop} {w : World}
def callAt (P : Program) (N : Nat) (ops : Array Oper) (f : Fr) (k : Nat) : Option (FuncId × List Value × Option Tmp) :=
  match opAt N ops f k with
  | some (.call ⟨.value (.func g), args, _⟩, d) => if callable P g then (evs f args.toList).map fun vs => (g, vs, d) else none
  | _ => none
theorem e_call {g : FuncId} {vs : List Value} {R : Ending → World → Prop} (d : Option Tmp) (h : callAt P N ops f k = some (g, vs, d)) (hc : Calls P g vs.toArray w R)
    (hK : ∀ e w', R e w' → ∃ v, e = .returned v ∧ ∀ a', Has N (pushd d v f) a' → K a' w') : ∀ a, Has N f a → wpOp P ops Q k K a w := by
  unfold callAt at h
  split at h
  · rename_i g' args tys d' ho
    split at h
    · rename_i hg
      simp only [Option.map_eq_some_iff, Prod.mk.injEq] at h
      obtain ⟨vs', hv, rfl, rfl, rfl⟩ := h
      exact eff_call ho hg hv hc hK
    · cases h
  · cases h
def storeAt (P : Program) (N : Nat) (ops : Array Oper) (f : Fr) (k : Nat) : Option (Nat × Nat × List Value × Option Tmp) :=
  match opAt N ops f k with
  | some (.store t x y, d) => match ev f x, ev f y with
    | some (.pointer (some ⟨b, o, none⟩)), some v => match szOf P t with
      | some n => if n = v.cells.size ∧ (v.cells.toList.all fun c => c.oneCell') = true then some (b, o, v.cells.toList, d) else none
      | none => none
    | _, _ => none
  | _ => none
theorem e_store {b : Nat} {cs : List Value} {T : TypeId} (o : Nat) (vs : List Value) (d : Option Tmp) (h : storeAt P N ops f k = some (b, o, vs, d)) (hb : Blk w b cs T) (hfit : o + vs.length ≤ cs.length)
    (hK : ∀ w', Blk w' b (put cs o vs) T → Ch (fun k => k = b) w w' → ∀ a', Has N (pushd d undef f) a' → K a' w') : ∀ a, Has N f a → wpOp P ops Q k K a w := by
  unfold storeAt at h
  split at h
  · rename_i t x y d' ho
    split at h
    · rename_i b' o' v hx hy
      split at h
      · rename_i n hn
        split at h
        · rename_i hc
          simp only [Option.some.injEq, Prod.mk.injEq] at h
          obtain ⟨rfl, rfl, rfl, rfl⟩ := h
          exact eff_store ho hx hy (by rw [hn, hc.1]) hc.2 hb (by simpa using hfit) hK
        · cases h
      · cases h
    · cases h
  · cases h
def newAt (P : Program) (N : Nat) (ops : Array Oper) (f : Fr) (k : Nat) : Option (List Value × TypeId × Option Tmp) :=
  match opAt N ops f k with
  | some (.alloc t, d) => ((P.info? t).bind (·.zero)).map fun z => (z.cells.toList, t, d)
  | some (.box t x, d) => (ev f x).map fun v => (v.cells.toList, t, d)
  | _ => none
theorem e_new (cs : List Value) (t : TypeId) (d : Option Tmp) (h : newAt P N ops f k = some (cs, t, d))
    (hK : ∀ w' b, b = w.heap.size → w'.heap.size = w.heap.size + 1 → Blk w' b cs t → Ch (fun _ => False) w w' → ∀ a', Has N (pushd d (.pointer (some ⟨b, 0, none⟩)) f) a' → K a' w') : ∀ a, Has N f a → wpOp P ops Q k K a w := by
  unfold newAt at h
  split at h
  · rename_i t' d' ho
    simp only [Option.map_eq_some_iff, Prod.mk.injEq] at h
    obtain ⟨z, hz, rfl, rfl, rfl⟩ := h
    exact eff_alloc ho hz hK
  · rename_i t' x d' ho
    simp only [Option.map_eq_some_iff, Prod.mk.injEq] at h
    obtain ⟨z, hz, rfl, rfl, rfl⟩ := h
    exact eff_box ho hz hK
  · cases h
def bsAt (P : Program) (N : Nat) (ops : Array Oper) (f : Fr) (k : Nat) : Option (List Value × TypeId × Nat × Option Tmp) :=
  match opAt N ops f k with
  | some (.buildSlice t len parts, d) => match evp f parts.toList with
    | some ps => (bsv P t len ps).map fun r => (r.1, r.2, len, d)
    | none => none
  | _ => none
theorem e_bs (cs : List Value) (t : TypeId) (len : Nat) (d : Option Tmp) (h : bsAt P N ops f k = some (cs, t, len, d))
    (hK : ∀ w' b, b = w.heap.size → w'.heap.size = w.heap.size + 1 → Blk w' b cs t → Ch (fun _ => False) w w' → ∀ a', Has N (pushd d (.slice (some ⟨b, 0, none⟩) len len) f) a' → K a' w') : ∀ a, Has N f a → wpOp P ops Q k K a w := by
  unfold bsAt at h
  split at h
  · rename_i t' len' parts d' ho
    split at h
    · rename_i ps hp
      simp only [Option.map_eq_some_iff, Prod.mk.injEq] at h
      obtain ⟨⟨r1, r2⟩, hr, rfl, rfl, rfl, rfl⟩ := h
      exact eff_buildSlice ho hp hr hK
    · cases h
  · cases h
end

/-! ### Code -/
def WC (P : Program) (N : Nat) (Q : Exit → Act → World → Prop) (c : Code) (f : Fr) (w : World) : Prop := ∀ a, Has N f a → c.wp P Q a w
section
variable {P : Program} {N : Nat} {Q : Exit → Act → World → Prop} {f : Fr} {w : World}
theorem x_seq {x y : Code} (h : ∀ K : Act → World → Prop, (∀ f' w', WC P N Q y f' w' → ∀ a, Has N f' a → K a w') → WC P N (Exit.then K Q) x f w) : WC P N Q (.seq x y) f w :=
  fun a ha => wp_seq (h _ (fun _ _ hy a ha => hy a ha) a ha)
theorem x_skip (h : ∀ a, Has N f a → Q .normal a w) : WC P N Q .skip f w := fun a ha => wp_skip (h a ha)
theorem x_exit {id : Nat} (h : ∀ a, Has N f a → Q (.exit id) a w) : WC P N Q (.exit id) f w := fun a ha => wp_exit (h a ha)
theorem x_ret (h : ∀ a, Has N f a → Q .ret a w) : WC P N Q .ret f w := fun a ha => wp_ret (h a ha)
theorem x_block {id : Nat} {c : Code} (h : WC P N (Exit.inBlock id Q) c f w) : WC P N Q (.block id c) f w := fun a ha => wp_block (h a ha)
theorem x_cond {c : Operand} {x y : Code} {b : Bool} (hc : ev f c = some (.bool b)) (ht : b = true → WC P N Q x f w) (hf : b = false → WC P N Q y f w) : WC P N Q (.cond c x y) f w :=
  fun a ha => wp_cond_split (ev_eval ha hc) (fun e => ht e a ha) (fun e => hf e a ha)
theorem x_cond_t {c : Operand} {x y : Code} (hc : ev f c = some (.bool true)) (ht : WC P N Q x f w) : WC P N Q (.cond c x y) f w := fun a ha => wp_cond_true (ev_eval ha hc) (ht a ha)
theorem x_cond_f {c : Operand} {x y : Code} (hc : ev f c = some (.bool false)) (hf : WC P N Q y f w) : WC P N Q (.cond c x y) f w := fun a ha => wp_cond_false (ev_eval ha hc) (hf a ha)
theorem x_keep {c : Code} (ks : List Nat) {f' : Fr} (hk : keep ks f = f') (h : WC P N Q c f' w) : WC P N Q c f w := fun a ha => h a (by subst hk; exact ha.keep ks)
theorem x_region {id : Nat} {ops : Array Oper} (h : WS P N ops Q 0 f w) : WC P N Q (.region id ops false) f w := fun a ha => wp_region (by
  have := h a ha
  rwa [Nat.sub_zero, ← List.range_eq_range'] at this)
theorem x_drawnF {id : Nat} {ops : Array Oper} (kill : List Nat) (F : World → Prop) (hm : P.follows .mixedOrders = true) (h : ∀ w', w'.heap = w.heap → Ch (fun _ => False) w w' → WD P N ops (Calm Q) kill F [] f w') : WC P N Q (.region id ops true) f w := fun a ha =>
  wp_mono (wp_region_any hm (wpAny_of_F _ F _ _ _ (h w.drew rfl (Ch.drew _ _) a ha))) fun _ _ _ hq => hq.to
/-- The condition is: the world has not changed since the draw. -/
theorem x_drawn {id : Nat} {ops : Array Oper} (kill : List Nat) (hm : P.follows .mixedOrders = true) (h : ∀ w', w'.heap = w.heap → Ch (fun _ => False) w w' → WD P N ops (Calm Q) kill (fun u => u = w') [] f w') : WC P N Q (.region id ops true) f w := fun a ha =>
  wp_mono (wp_region_any hm (wpAny_of_F _ (fun u => u = w.drew) _ _ _ (h w.drew rfl (Ch.drew _ _) a ha))) fun _ _ _ hq => hq.to
/-- A loop: a ghost state tells the frame. -/
theorem x_loop {σ : Type} {c : Code} (fr : σ → Fr) (I : σ → World → Prop) (μ : σ → Nat) (s₀ : σ) (hf : fr s₀ = f) (h₀ : I s₀ w)
    (round : ∀ s w, I s w → ∀ K : Act → World → Prop, (∀ s' w', I s' w' → μ s' < μ s → ∀ a, Has N (fr s') a → K a w') → WC P N (Exit.then K Q) c (fr s) w) : WC P N Q (.loop c) f w := by
  intro a ha
  subst hf
  refine wp_loop_ghost (fun n a w => ∃ s, μ s = n ∧ I s w ∧ Has N (fr s) a) (μ s₀) ⟨s₀, rfl, h₀, ha⟩ ?_
  rintro n a w ⟨s, rfl, hI, ha⟩
  exact round s w hI _ (fun s' w' hI' hlt a' ha' => ⟨μ s', hlt, s', rfl, hI', ha'⟩) a ha
/-- Whatever way led here: a state that is shared by all of them. -/
theorem x_cut {c : Code} {M : Fr → World → Prop} (hM : M f w) (h : ∀ f w, M f w → WC P N Q c f w) : WC P N Q c f w := h f w hM
end

/-- A return passes by what follows. -/
theorem then_ret {N : Nat} {f : Fr} {w : World} {Q : Exit → Act → World → Prop} {K : Act → World → Prop} (h : ∀ a, Has N f a → Q .ret a w) : ∀ a, Has N f a → Exit.then K Q .ret a w := h
theorem block_ret {N : Nat} {f : Fr} {w : World} {Q : Exit → Act → World → Prop} {id : Nat} (h : ∀ a, Has N f a → Q .ret a w) : ∀ a, Has N f a → Exit.inBlock id Q .ret a w := h
/-- A Bool, by cases, in the frame too. -/
theorem bool_split {M : Bool → Prop} (e : Bool) (ht : e = true → M true) (hf : e = false → M false) : M e := by
  cases e
  · exact hf rfl
  · exact ht rfl

/-! ### A function -/
def argsFr (i : Nat) : List Value → Fr
  | [] => []
  | v :: vs => (i, v) :: argsFr (i + 1) vs
theorem get_argsFr : ∀ (vs : List Value) (i t : Nat) (v : Value), get (argsFr i vs) t = some v → i ≤ t ∧ vs[t - i]? = some v
  | [], _, _, _, h => by simp [argsFr, get] at h
  | u :: vs, i, t, v, h => by
    simp only [argsFr, get] at h
    split at h
    · rename_i e
      subst e
      simp at h
      simp [h]
    · obtain ⟨h1, h2⟩ := get_argsFr vs (i + 1) t v h
      refine ⟨by omega, ?_⟩
      rw [show t - i = (t - (i + 1)) + 1 by omega]
      simpa using h2
theorem x_enter {P : Program} {g : FuncId} {fn : Func} {c : Code} {args : List Value} {w : World} {R : Ending → World → Prop} (hf : P.funcs[g]? = some fn) (hb : fn.body = some c) (hn : args.length ≤ fn.ntmps)
    (h : WC P fn.ntmps (bodyPost P fn R) c (argsFr 0 args) w) : Calls P g args.toArray w R := by
  refine calls_of_wp hf hb (h _ ⟨by simp; omega, rfl, fun t v hv => ?_⟩)
  obtain ⟨_, h2⟩ := get_argsFr args 0 t v hv
  have hlt : t < args.length := by
    rcases Nat.lt_or_ge t args.length with h' | h'
    · exact h'
    · rw [List.getElem?_eq_none (by omega)] at h2; cases h2
  simp only [Nat.sub_zero] at h2
  rw [Array.getD_eq_getD_getElem?, Array.getElem?_append_left (by simpa using hlt)]
  simp [h2]
section
variable {P : Program} {N : Nat} {fn : Func} {R : Ending → World → Prop} {f : Fr} {w : World}
theorem x_done0 (hr : fn.results = #[]) (h : R (.returned (.tuple #[])) w) : ∀ a, Has N f a → bodyPost P fn R .ret a w :=
  fun _ ha => ⟨ha.defers, _, results_none hr _ _ _, h⟩
theorem x_done0' (hr : fn.results = #[]) (h : R (.returned (.tuple #[])) w) : ∀ a, Has N f a → bodyPost P fn R .normal a w :=
  fun _ ha => ⟨ha.defers, _, results_none hr _ _ _, h⟩
theorem x_done1 {t : Tmp} {v : Value} (hr : fn.results = #[.tmp t]) (hv : get f t = some v) (h : R (.returned v) w) : ∀ a, Has N f a → bodyPost P fn R .ret a w :=
  fun a ha => ⟨ha.defers, _, results_tmp hr _ _ _, by rw [ha.get t v hv]; exact h⟩
theorem x_done2 {t u : Tmp} {v v' : Value} (hr : fn.results = #[.tmp t, .tmp u]) (hv : get f t = some v) (hv' : get f u = some v') (h : R (.returned (.tuple #[v, v'])) w) : ∀ a, Has N f a → bodyPost P fn R .ret a w :=
  fun a ha => ⟨ha.defers, _, results_tmp2 hr _ _ _, by rw [ha.get t v hv, ha.get u v' hv']; exact h⟩
/-- One result that lies in memory. -/
theorem x_done1c {t : Tmp} {ty : TypeId} {b o : Nat} {v : Value} {cs : List (World → Prop)} (hr : fn.results = #[.cell t ty]) (hv : get f t = some (.pointer (some ⟨b, o, none⟩))) (hl : loadC P ty b o v = some cs) (hc : AllC cs w)
    (h : R (.returned v) w) : ∀ a, Has N f a → bodyPost P fn R .ret a w := by
  intro a ha
  refine ⟨ha.defers, v, ?_, h⟩
  have e := ha.get t _ hv
  have hl' := run_loadC (P := P) hl hc
  unfold results
  rw [hr]
  simp only [List.mapM_toArray, List.mapM_cons, List.mapM_nil, Sem.run_bind, Sem.run_map, e, asAddr, Sem.run_pure, Result.andThen_ok, hl']
  rfl
end
end Go.Proofs.YtamccnffnljadaaDoor.X
