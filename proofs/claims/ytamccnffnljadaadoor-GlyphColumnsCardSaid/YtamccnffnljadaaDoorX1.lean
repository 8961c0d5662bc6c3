/- The operations that yield a value: what each yields, and that the model's run is that. -/
import Derived.Test.YtamccnffnljadaaDoorX0
import Derived.Laws.Small
import Derived.Laws.Runes
import Derived.Laws.Pointers
import Derived.Laws.Cover3
namespace Go.Proofs.YtamccnffnljadaaDoor.X
open Go

theorem run_und {P : Program} {t : TypeId} {d : TypeDesc} (h : P.underlying t = some d) (w : World) : (underlying t).run P w = .ok d w := run_underlying h w
theorem run_sz {P : Program} {t : TypeId} {n : Nat} (h : szOf P t = some n) (w : World) : (sizeOf t).run P w = .ok n w := by
  unfold szOf at h
  cases hi : P.info? t with
  | none => rw [hi] at h; cases h
  | some i => rw [hi] at h; simp at h; simp [sizeOf, typeInfo, hi, h]
theorem add_pl (b o n : Nat) : (⟨b, o, none⟩ : Addr).add n = ⟨b, o + n, none⟩ := by
  unfold Addr.add
  split
  · rename_i h; subst h; rfl
  · rfl
theorem run_isAgg {P : Program} {t : TypeId} {r : Bool} (h : isAggB P t = some r) (w : World) : (isAgg t).run P w = .ok r w := by
  unfold isAggB at h
  cases hu : P.underlying t with
  | none => rw [hu] at h; cases h
  | some d =>
    rw [hu] at h
    simp only [Option.map_some, Option.some.injEq] at h
    subst h
    simp only [isAgg, Sem.run_bind, run_und hu, Result.andThen_ok]
    cases d <;> rfl
theorem cellsC_get {w : World} {b : Nat} : ∀ {vs : List Value} {o : Nat}, AllC (cellsC b o vs) w → ∀ (j : Nat) v, vs[j]? = some v → w.cell? ⟨b, o + j, none⟩ = some v
  | [], _, _, j, v, h => by simp at h
  | u :: vs, o, hc, j, v, h => by
    cases j with
    | zero => simp at h; subst h; exact hc.1
    | succ j =>
      have := cellsC_get hc.2 j v (by simpa using h)
      rw [show o + (j + 1) = o + 1 + j by omega]
      exact this
theorem run_loadC {P : Program} {t : TypeId} {b o : Nat} {v : Value} {cs : List (World → Prop)} {w : World} (h : loadC P t b o v = some cs) (hc : AllC cs w) :
    (loadVar t ⟨b, o, none⟩).run P w = .ok v w := by
  unfold loadC at h
  split at h
  · rename_i n vs ha hs
    split at h
    · rename_i hn
      obtain rfl := Option.some.inj h
      have := run_loadCells_list (P := P) (w := w) ⟨b, o, none⟩ vs.toList (fun j u hu => by rw [add_pl]; exact cellsC_get hc j u hu)
      rw [show vs.toList.length = n by simpa using hn] at this
      simp [loadVar, run_isAgg ha, run_sz hs, this]
    · cases h
  · rename_i u ha
    obtain rfl := Option.some.inj h
    have := hc.1
    simp [loadVar, run_isAgg ha, this]
  · cases h

/-- An index's or a slice's bound. -/
def bnd (f : Fr) : Option Operand → Option (Option Int)
  | none => some none
  | some x => match ev f x with
    | some (.int _ i) => some (some i)
    | _ => none
def lo0 : Option Int → Nat
  | none => 0
  | some i => i.toNat
def hi0 (n : Nat) : Option Int → Nat
  | none => n
  | some i => i.toNat
def bndC (n : Nat) : Option Int → List (World → Prop)
  | none => []
  | some i => [fun _ => 0 ≤ i ∧ i ≤ n]

def slicev (P : Program) (alt : Bool) (t : TypeId) (x : Value) (lo hi : Option Int) : Option (Value × List (World → Prop)) :=
  match P.underlying t, x with
  | some .string, .string s => some (.string (s.extract (lo0 lo) (hi0 s.size hi)), bndC s.size hi ++ bndC (hi0 s.size hi) lo)
  | some (.slice e), .slice a len cap => match szOf P e, lo, a with
    | some _, none, a => some (.slice a (hi0 len hi) cap, bndC cap hi)
    | some _, some l, none => some (.slice none (hi0 len hi - l.toNat) (cap - l.toNat), bndC cap hi ++ bndC (hi0 len hi) (some l))
    | some sz, some l, some ⟨b, o, none⟩ => if alt then some (.slice (some ⟨b, o + l.toNat * sz, none⟩) (hi0 len hi - l.toNat) (cap - l.toNat), bndC cap hi ++ bndC (hi0 len hi) (some l) ++ [(fun _ => l.toNat < cap : World → Prop)])
      else some (.slice (some ⟨b, if cap = l.toNat then o else o + l.toNat * sz, none⟩) (hi0 len hi - l.toNat) (cap - l.toNat), bndC cap hi ++ bndC (hi0 len hi) (some l))
    | _, _, _ => none
  | some (.array n e), .pointer (some a) => match szOf P e, lo, a with
    | some _, none, a => some (.slice (some a) (hi0 n hi) n, bndC n hi)
    | some sz, some l, ⟨b, o, none⟩ => if alt then some (.slice (some ⟨b, o + l.toNat * sz, none⟩) (hi0 n hi - l.toNat) (n - l.toNat), bndC n hi ++ bndC (hi0 n hi) (some l) ++ [(fun _ => l.toNat < n : World → Prop)])
      else some (.slice (some ⟨b, if n = l.toNat then o else o + l.toNat * sz, none⟩) (hi0 n hi - l.toNat) (n - l.toNat), bndC n hi ++ bndC (hi0 n hi) (some l))
    | _, _, _ => none
  | _, _ => none

theorem run_bnd {P : Program} {w : World} {k : IntKind} {i : Int} {n : Nat} {code : BoundsCode} (h : 0 ≤ i ∧ i ≤ n) : (Instr.sliceBound (.int k i) n code).run P w = .ok i.toNat w :=
  run_sliceBound w k i n code h.1 h.2

/-- The operands of a slice expression, as values. -/
def isBnd (v : Option Value) (i : Option Int) : Prop :=
  match i with
  | none => v = none
  | some i => ∃ k, v = some (.int k i)
theorem run_sliceBounds {P : Program} {w : World} {isS : Bool} {len cap : Nat} {lo hi : Option Value} {l h : Option Int} (hl : isBnd lo l) (hh : isBnd hi h)
    (h1 : AllC (bndC cap h) w) (h2 : AllC (bndC (hi0 len h) l) w) : (Instr.sliceBounds isS len cap lo hi none).run P w = .ok (lo0 l, hi0 len h, cap) w := by
  cases l <;> cases h <;> simp only [isBnd] at hl hh
  · subst hl; subst hh
    simp [Instr.sliceBounds, lo0, hi0]
  · obtain ⟨k, rfl⟩ := hh; subst hl
    simp only [bndC, AllC] at h1
    simp [Instr.sliceBounds, lo0, hi0, run_bnd h1.1]
  · obtain ⟨k, rfl⟩ := hl; subst hh
    simp only [bndC, AllC, hi0] at h2
    simp [Instr.sliceBounds, lo0, hi0, run_bnd h2.1]
  · obtain ⟨k, rfl⟩ := hl; obtain ⟨k', rfl⟩ := hh
    simp only [bndC, AllC, hi0] at h1 h2
    simp [Instr.sliceBounds, lo0, hi0, run_bnd h1.1, run_bnd h2.1]

theorem slicev_run {P : Program} {w : World} {alt : Bool} {t : TypeId} {x v : Value} {lo hi : Option Value} {l h : Option Int} {cs : List (World → Prop)}
    (hs : slicev P alt t x l h = some (v, cs)) (hl : isBnd lo l) (hh : isBnd hi h) (hc : AllC cs w) : (Instr.sliceAt t x lo hi none).run P w = .ok v w := by
  unfold slicev at hs
  split at hs
  · rename_i s hu
    simp only [Option.some.injEq, Prod.mk.injEq] at hs
    obtain ⟨rfl, rfl⟩ := hs
    rw [AllC_append] at hc
    simp [Instr.sliceAt, run_und hu, Instr.slice, run_sliceBounds (P := P) hl hh hc.1 hc.2]
  · rename_i e a len cap hu
    split at hs
    · rename_i n hsz
      simp only [Option.some.injEq, Prod.mk.injEq] at hs
      obtain ⟨rfl, rfl⟩ := hs
      have hb := run_sliceBounds (P := P) (isS := true) (len := len) (cap := cap) hl hh hc (by simp [bndC, AllC])
      simp only [Instr.sliceAt, run_und hu, Sem.run_bind, Result.andThen_ok, Instr.slice, hb, run_sz hsz, lo0, Nat.zero_mul, Nat.sub_zero, Sem.run_pure]
      congr 2
      split
      · rfl
      · have e0 : (fun x : Addr => x.add 0) = id := by funext x; simp [Addr.add]
        rw [e0, Option.map_id]; rfl
    · rename_i sz l hsz
      simp only [Option.some.injEq, Prod.mk.injEq] at hs
      obtain ⟨rfl, rfl⟩ := hs
      rw [AllC_append] at hc
      have hb := run_sliceBounds (P := P) (isS := true) (len := len) (cap := cap) hl hh hc.1 hc.2
      simp only [Instr.sliceAt, run_und hu, Sem.run_bind, Result.andThen_ok, Instr.slice, hb, run_sz hsz, lo0, Sem.run_pure]
      congr 2
      split <;> rfl
    · rename_i sz l b o hsz
      split at hs
      · simp only [Option.some.injEq, Prod.mk.injEq] at hs
        obtain ⟨rfl, rfl⟩ := hs
        rw [AllC_append, AllC_append] at hc
        have hb := run_sliceBounds (P := P) (isS := true) (len := len) (cap := cap) hl hh hc.1.1 hc.1.2
        have hlt := hc.2.1
        simp only [Instr.sliceAt, run_und hu, Sem.run_bind, Result.andThen_ok, Instr.slice, hb, run_sz hsz, lo0, Sem.run_pure]
        rw [if_neg (by omega)]
        simp [add_pl]
      · simp only [Option.some.injEq, Prod.mk.injEq] at hs
        obtain ⟨rfl, rfl⟩ := hs
        rw [AllC_append] at hc
        have hb := run_sliceBounds (P := P) (isS := true) (len := len) (cap := cap) hl hh hc.1 hc.2
        simp only [Instr.sliceAt, run_und hu, Sem.run_bind, Result.andThen_ok, Instr.slice, hb, run_sz hsz, lo0, Sem.run_pure]
        congr 2
        split <;> simp [add_pl]
    · cases hs
  · rename_i n e a hu
    split at hs
    · rename_i m hsz
      simp only [Option.some.injEq, Prod.mk.injEq] at hs
      obtain ⟨rfl, rfl⟩ := hs
      have hb := run_sliceBounds (P := P) (isS := false) (len := n) (cap := n) hl hh hc (by simp [bndC, AllC])
      simp only [Instr.sliceAt, run_und hu, Sem.run_bind, Result.andThen_ok, Instr.sureAddr, hb, run_sz hsz, lo0, Nat.zero_mul, Nat.sub_zero, Sem.run_pure]
      congr 2
      split
      · rfl
      · simp [Addr.add]
    · rename_i sz l b o hsz
      split at hs
      · simp only [Option.some.injEq, Prod.mk.injEq] at hs
        obtain ⟨rfl, rfl⟩ := hs
        rw [AllC_append, AllC_append] at hc
        have hb := run_sliceBounds (P := P) (isS := false) (len := n) (cap := n) hl hh hc.1.1 hc.1.2
        have hlt := hc.2.1
        simp only [Instr.sliceAt, run_und hu, Sem.run_bind, Result.andThen_ok, Instr.sureAddr, hb, run_sz hsz, lo0, Sem.run_pure]
        rw [if_neg (by omega)]
        simp [add_pl]
      · simp only [Option.some.injEq, Prod.mk.injEq] at hs
        obtain ⟨rfl, rfl⟩ := hs
        rw [AllC_append] at hc
        have hb := run_sliceBounds (P := P) (isS := false) (len := n) (cap := n) hl hh hc.1 hc.2
        simp only [Instr.sliceAt, run_und hu, Sem.run_bind, Result.andThen_ok, Instr.sureAddr, hb, run_sz hsz, lo0, Sem.run_pure]
        congr 2
        split <;> simp [add_pl]
    · cases hs
  · cases hs

/-- An address of an element. -/
def indexv (P : Program) (t : TypeId) (x i : Value) : Option (Value × List (World → Prop)) :=
  match P.underlying t, x, i with
  | some (.slice e), .slice (some ⟨b, o, none⟩) len _, .int _ i => (szOf P e).map fun s => (.pointer (some ⟨b, o + i.toNat * s, none⟩), [fun _ => 0 ≤ i ∧ i < len])
  | some (.array n e), .pointer (some ⟨b, o, none⟩), .int _ i => (szOf P e).map fun s => (.pointer (some ⟨b, o + i.toNat * s, none⟩), [fun _ => 0 ≤ i ∧ i < n])
  | _, _, _ => none
theorem indexv_run {P : Program} {w : World} {t : TypeId} {x i v : Value} {cs : List (World → Prop)} (h : indexv P t x i = some (v, cs)) (hc : AllC cs w) :
    (Instr.indexAt t x i).run P w = .ok v w := by
  unfold indexv at h
  split at h
  · rename_i e b o len cap k i hu
    simp only [Option.map_eq_some_iff, Prod.mk.injEq] at h
    obtain ⟨s, hs, rfl, rfl⟩ := h
    have hi := hc.1
    simp [Instr.indexAt, run_und hu, asIntOf, hi, run_sz hs, add_pl]
  · rename_i n e b o k i hu
    simp only [Option.map_eq_some_iff, Prod.mk.injEq] at h
    obtain ⟨s, hs, rfl, rfl⟩ := h
    have hi := hc.1
    simp [Instr.indexAt, run_und hu, asIntOf, Instr.sureAddr, hi, run_sz hs, add_pl]
  · cases h

/-- An element of a string. -/
def strIx (P : Program) (t : TypeId) (x i : Value) : Option (Value × List (World → Prop)) :=
  match P.underlying t, x, i with
  | some .string, .string s, .int _ i => some (.int .u8 (bt s i), [fun _ => 0 ≤ i ∧ i < s.size])
  | _, _, _ => none
theorem strIx_run {P : Program} {w : World} {t : TypeId} {x i v : Value} {cs : List (World → Prop)} (h : strIx P t x i = some (v, cs)) (hc : AllC cs w) :
    (Instr.index t x i).run P w = .ok v w := by
  unfold strIx at h
  split at h
  · rename_i s k i hu
    simp only [Option.some.injEq, Prod.mk.injEq] at h
    obtain ⟨rfl, rfl⟩ := h
    have hi := hc.1
    have hlt : i.toNat < s.size := by omega
    simp [Instr.index, run_und hu, asIntOf, hi.1, bt, hlt]
  · cases h

/-- The address of a field. -/
def fieldv (P : Program) (s : TypeId) (x : Value) (i : Nat) : Option Value :=
  match P.underlying s, x with
  | some (.struct fs), .pointer (some ⟨b, o, none⟩) => match fs[i]? with
    | some fd => match szOf P fd.type with
      | some (_ + 1) => some (.pointer (some ⟨b, o + fd.offset, none⟩))
      | _ => none
    | none => none
  | _, _ => none
theorem fieldv_run {P : Program} {w : World} {s : TypeId} {x v : Value} {i : Nat} (h : fieldv P s x i = some v) : (Instr.fieldAt s x i).run P w = .ok v w := by
  unfold fieldv at h
  split at h
  · rename_i fs b o hu
    split at h
    · rename_i fd hf
      split at h
      · rename_i n hs
        obtain rfl := Option.some.inj h
        simp [Instr.fieldAt, run_und hu, hf, Instr.sureAddr, fieldPlace, run_sz hs, add_pl]
      · cases h
    · cases h
  · cases h

/-- A part of an aggregate. -/
def partv (P : Program) (t : TypeId) (cs : Array Value) (off : Nat) : Option Value :=
  match isAggB P t, szOf P t with
  | some true, some n => some (.agg (cs.extract off (off + n)))
  | some false, _ => cs[off]?
  | _, _ => none
theorem partv_run {P : Program} {w : World} {t : TypeId} {cs : Array Value} {off : Nat} {v : Value} (h : partv P t cs off = some v) : (part t cs off).run P w = .ok v w := by
  unfold partv at h
  split at h
  · rename_i n ha hs
    obtain rfl := Option.some.inj h
    simp [part, run_isAgg ha, run_sz hs]
  · rename_i ha
    simp [part, run_isAgg ha, h]
  · cases h
def fieldOf (P : Program) (t : TypeId) (x : Value) (i : Nat) : Option Value :=
  match P.underlying t, x with
  | some (.struct fs), .agg cs => match fs[i]? with
    | some fd => partv P fd.type cs fd.offset
    | none => none
  | _, _ => none
theorem fieldOf_run {P : Program} {w : World} {t : TypeId} {x v : Value} {i : Nat} (h : fieldOf P t x i = some v) : (Instr.field t x i).run P w = .ok v w := by
  unfold fieldOf at h
  split at h
  · rename_i fs cs hu
    split at h
    · rename_i fd hf
      simp [Instr.field, run_und hu, hf, asAgg, partv_run h]
    · cases h
  · cases h

/-- A composite of a struct's or an array's fields. -/
def buildv (P : Program) (t : TypeId) (parts : List (Nat × Value)) : Option Value :=
  match (P.info? t).bind (·.zero), P.underlying t with
  | some z, some (.struct fs) => match fs.toList.mapM (fun fd => (szOf P fd.type).map fun n => (fd.offset, n)) with
    | some places => (Instr.fill (places[·]?) z.cells parts).map .agg
    | none => none
  | some z, some (.array _ e) => match szOf P e with
    | some n => (Instr.fill (fun i => some (i * n, n)) z.cells parts).map .agg
    | none => none
  | _, _ => none
def placeOf (f : Field) : Sem (Nat × Nat) := do pure (f.offset, ← sizeOf f.type)
theorem run_places {P : Program} {w : World} : ∀ (fs : List Field) (places : List (Nat × Nat)), fs.mapM (fun fd => (szOf P fd.type).map fun n => (fd.offset, n)) = some places →
    (fs.mapM placeOf).run P w = .ok places w
  | [], places, h => by simp at h; subst h; simp
  | fd :: fs, places, h => by
    simp only [List.mapM_cons, Option.bind_eq_bind, Option.pure_def] at h
    cases hs : szOf P fd.type with
    | none => rw [hs] at h; cases h
    | some n =>
      rw [hs] at h
      simp only [Option.map_some, Option.bind_some] at h
      cases hr : fs.mapM (fun fd => (szOf P fd.type).map fun n => (fd.offset, n)) with
      | none => rw [hr] at h; cases h
      | some ps =>
        rw [hr] at h
        simp only [Option.bind_some, Option.some.injEq] at h
        subst h
        have e : (placeOf fd).run P w = .ok (fd.offset, n) w := by simp [placeOf, run_sz hs]
        simp only [List.mapM_cons, Sem.run_bind, e, Result.andThen_ok, run_places fs ps hr, Sem.run_pure]
theorem run_zero {P : Program} {t : TypeId} {z : Value} (h : (P.info? t).bind (·.zero) = some z) (w : World) : (zeroValue t).run P w = .ok z w := by
  cases hi : P.info? t with
  | none => rw [hi] at h; cases h
  | some i => rw [hi] at h; simp at h; simp [zeroValue, typeInfo, hi, h]
theorem buildv_run {P : Program} {w : World} {t : TypeId} {parts : Array (Nat × Value)} {v : Value} (h : buildv P t parts.toList = some v) : (Instr.build t parts).run P w = .ok v w := by
  unfold buildv at h
  split at h
  · rename_i z fs hz hu
    split at h
    · rename_i places hp
      simp only [Option.map_eq_some_iff] at h
      obtain ⟨cells, hf, rfl⟩ := h
      have hm : (fs.mapM placeOf).run P w = .ok places.toArray w := by
        rw [Array.mapM_eq_mapM_toList, Sem.run_map, run_places fs.toList places hp]
        rfl
      have hf' : Instr.fill (fun x => places.toArray[x]?) z.cells parts.toList = some cells := by simpa using hf
      have hm' : (fs.mapM (m := Sem) fun f => do pure (f.offset, ← sizeOf f.type)).run P w = .ok places.toArray w := hm
      simp only [Instr.build, Sem.run_bind, run_zero hz, run_und hu, Result.andThen_ok, hm', hf', Sem.run_pure]
    · cases h
  · rename_i z n e hz hu
    split at h
    · rename_i m hs
      simp only [Option.map_eq_some_iff] at h
      obtain ⟨cells, hf, rfl⟩ := h
      simp only [Instr.build, Sem.run_bind, run_zero hz, run_und hu, Result.andThen_ok, run_sz hs, hf, Sem.run_pure]
    · cases h
  · cases h
end Go.Proofs.YtamccnffnljadaaDoor.X
