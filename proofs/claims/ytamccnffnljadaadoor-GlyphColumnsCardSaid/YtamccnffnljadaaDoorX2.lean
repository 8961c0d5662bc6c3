/- The operations that yield a value, all of them: 'opv', and that the model's run is that. -/
import Derived.Test.YtamccnffnljadaaDoorX1
import Derived.Laws.StructEq
namespace Go.Proofs.YtamccnffnljadaaDoor.X
open Go

/-- Are two values the same? (numbers, bools, strings, structs of these) -/
def eqs (P : Program) (E : TypeId → Value → Value → Option Bool) (xs ys : Array Value) : List Field → Option Bool
  | [] => some true
  | f :: fs => if f.name = "_" then none else
    match partv P f.type xs f.offset, partv P f.type ys f.offset with
    | some a, some b => match E f.type a b, eqs P E xs ys fs with
      | some r, some s => some (r && s)
      | _, _ => none
    | _, _ => none
def eqv (P : Program) : Nat → TypeId → Value → Value → Option Bool
  | 0, _, _, _ => none
  | d + 1, t, x, y =>
    match P.underlying t, x, y with
    | some .bool, .bool a, .bool b => some (a == b)
    | some (.int _), .int k a, .int k' b => if k = k' then some (a == b) else none
    | some .string, .string a, .string b => some (a.toList == b.toList)
    | some (.struct fs), .agg xs, .agg ys => if P.stoodInHeld t then none else eqs P (eqv P d) xs ys fs.toList
    | _, _, _ => none

theorem eqs_run {P : Program} (w : World) (d : Nat) (E : TypeId → Value → Value → Option Bool) (hE : ∀ t x y r, E t x y = some r → (Op.equalIn d t x y).run P w = .ok r w) (xs ys : Array Value) :
    ∀ (fs : List Field) (r : Bool), eqs P E xs ys fs = some r → (Op.eqFields d xs ys fs).run P w = .ok r w
  | [], r, h => by simp [eqs] at h; subst h; simp [Op.eqFields]
  | f :: fs, r, h => by
    unfold eqs at h
    split at h
    · cases h
    · rename_i hn
      split at h
      · rename_i a b ha hb
        split at h
        · rename_i q s hq hs
          obtain rfl := Option.some.inj h
          have h1 := hE f.type a b q hq
          have h2 := eqs_run w d E hE xs ys fs s hs
          rw [Op.eqFields, if_pos hn]
          simp only [Sem.run_bind, partv_run ha, partv_run hb, Result.andThen_ok, h1]
          cases q
          · simp
          · simp [h2]
        · cases h
      · cases h
theorem eqv_run {P : Program} (w : World) : ∀ (d : Nat) (e : Nat) (t : TypeId) (x y : Value) (r : Bool), eqv P d t x y = some r → (Op.equalIn (d + e) t x y).run P w = .ok r w
  | 0, _, _, _, _, _, h => by simp [eqv] at h
  | d + 1, e, t, x, y, r, h => by
    rw [show d + 1 + e = d + e + 1 by omega]
    unfold eqv at h
    split at h
    · rename_i a b hu
      obtain rfl := Option.some.inj h
      exact run_equalIn_bool' w (d + e) t a b hu
    · rename_i k0 k a k' b hu
      split at h
      · rename_i hk
        subst hk
        obtain rfl := Option.some.inj h
        exact run_equalIn_int w (d + e) t k k0 a b hu
      · cases h
    · rename_i a b hu
      obtain rfl := Option.some.inj h
      exact run_equalIn_string w (d + e) t a b hu
    · rename_i fs xs ys hu
      split at h
      · cases h
      · rename_i hp
        have hf : P.fieldsOf t = fs := by simp [Program.fieldsOf, hu]
        rw [run_equalIn_struct w (d + e) t xs ys (by rw [hf]; exact hu) (by simpa using hp), hf]
        exact eqs_run w (d + e) (eqv P d) (fun t x y r h => eqv_run w d e t x y r h) xs ys fs.toList r h
    · cases h

def bools (op : BinOp) (b : Bool) : Option Value :=
  match op with
  | .eql => some (.bool b)
  | .neq => some (.bool (!b))
  | _ => none

/-- Two operands. -/
def binv (P : Program) (alt : Bool) (op : BinOp) (t : TypeId) (x y : Value) : Option (Value × List (World → Prop)) :=
  match op, x, y with
  | .shl, .int k a, .int _ b => some (.int k (k.wrap (a * 2 ^ min b.toNat k.bits)), [fun _ => 0 ≤ b])
  | .shr, .int k a, .int _ b => some (.int k (a.fdiv (2 ^ min b.toNat k.bits)), [fun _ => 0 ≤ b])
  | op, .int k a, .int k' b => if k = k' then intv alt op k a b else none
  | .add, .string a, .string b => some (.string (a ++ b), [fun _ => a.size + b.size ≤ 9223372036854775807])
  | .eql, .string a, .string b => some (.bool (a.toList == b.toList), [])
  | .neq, .string a, .string b => some (.bool (!(a.toList == b.toList)), [])
  | op, .bool a, .bool b => match P.underlying t with
    | some .bool => (bools op (a == b)).map fun v => (v, [])
    | _ => none
  | op, .pointer a, .pointer none => match P.underlying t with
    | some (.pointer _) => (bools op a.isNone).map fun v => (v, [])
    | _ => none
  | op, .slice a _ _, .slice none _ _ => match P.underlying t with
    | some (.slice _) => (bools op a.isNone).map fun v => (v, [])
    | _ => none
  | op, .agg xs, .agg ys => if P.eqGuardType P.depth t then none else match eqv P 20 t (.agg xs) (.agg ys) with
    | some r => (bools op r).map fun v => (v, [])
    | none => none
  | _, _, _ => none

theorem binv_run {P : Program} {w : World} {alt : Bool} {op : BinOp} {t : TypeId} {x y v : Value} {X Y : Operand} {cs : List (World → Prop)}
    (h : binv P alt op t x y = some (v, cs)) (hc : AllC cs w) : (do eqGuard op t X Y x y; binOp op t x y : Sem Value).run P w = .ok v w := by
  unfold binv at h
  split at h
  · rename_i k a k' b
    simp only [Option.some.injEq, Prod.mk.injEq] at h
    obtain ⟨rfl, rfl⟩ := h
    have hb : ¬ b < 0 := by have := hc.1; omega
    simp [eqGuard, binOp, Op.shift, hb]
  · rename_i k a k' b
    simp only [Option.some.injEq, Prod.mk.injEq] at h
    obtain ⟨rfl, rfl⟩ := h
    have hb : ¬ b < 0 := by have := hc.1; omega
    simp [eqGuard, binOp, Op.shift, hb]
  · rename_i k a k' b hs1 hs2
    split at h
    · rename_i hk
      subst hk
      have hg : (eqGuard op t X Y (.int k a) (.int k b)).run P w = .ok () w := by cases op <;> simp [eqGuard]
      simp only [Sem.run_bind, hg, Result.andThen_ok]
      exact intv_run h hc
    · cases h
  · rename_i a b
    simp only [Option.some.injEq, Prod.mk.injEq] at h
    obtain ⟨rfl, rfl⟩ := h
    have hb : a.size + b.size ≤ 9223372036854775807 := hc.1
    have : ¬ (((a.size + b.size : Nat) : Int) > IntKind.i64.max) := by simp [IntKind.max, IntKind.bits, IntKind.signed]; omega
    simp only [eqGuard, binOp, Op.stringOp, if_neg this]
    rfl
  · rename_i a b
    simp only [Option.some.injEq, Prod.mk.injEq] at h
    obtain ⟨rfl, rfl⟩ := h
    simp [eqGuard, binOp, Op.stringOp]
  · rename_i a b
    simp only [Option.some.injEq, Prod.mk.injEq] at h
    obtain ⟨rfl, rfl⟩ := h
    simp [eqGuard, binOp, Op.stringOp]
  · rename_i a b
    split at h
    · rename_i hu
      cases op <;> simp [bools] at h <;> obtain ⟨rfl, rfl⟩ := h
      · rw [Sem.run_bind, show (eqGuard .eql t X Y (.bool a) (.bool b)).run P w = .ok () w by simp [eqGuard]]
        exact run_eql_bool w t a b hu
      · rw [Sem.run_bind, show (eqGuard .neq t X Y (.bool a) (.bool b)).run P w = .ok () w by simp [eqGuard]]
        exact run_neq_bool w t a b hu
    · cases h
  · rename_i a
    split at h
    · rename_i e hu
      have hu' : P.underlying t = some (.pointer (P.pointee t)) := by simp [Program.pointee, hu]
      cases op <;> simp [bools] at h <;> obtain ⟨rfl, rfl⟩ := h
      · rw [Sem.run_bind, show (eqGuard .eql t X Y (.pointer a) (.pointer none)).run P w = .ok () w by simp [eqGuard]]
        exact run_eql_pointer_nil w t a hu'
      · rw [Sem.run_bind, show (eqGuard .neq t X Y (.pointer a) (.pointer none)).run P w = .ok () w by simp [eqGuard]]
        have := run_neq_pointer_nil w t a hu'
        simpa using this
    · cases h
  · rename_i a l c l' c'
    split at h
    · rename_i e hu
      have hq : (Op.equal t (.slice a l c) (.slice none l' c')).run P w = .ok a.isNone w := by
        unfold Op.equal Op.maxDepth
        rw [show (10000 : Nat) = 9999 + 1 from rfl]
        unfold Op.equalIn
        cases a <;> simp [run_und hu]
      cases op <;> simp [bools] at h <;> obtain ⟨rfl, rfl⟩ := h
      · simp [eqGuard, binOp, hq]
      · simp [eqGuard, binOp, hq]
    · cases h
  · rename_i xs ys
    split at h
    · cases h
    · rename_i hm
      split at h
      · rename_i r hr
        have hq := eqv_run w 20 9980 t (.agg xs) (.agg ys) r hr
        have hg := run_eqGuard_agg (P := P) w op t X Y xs ys (by simpa using hm)
        simp only [Sem.run_bind, hg, Result.andThen_ok]
        cases op <;> simp [bools] at h <;> obtain ⟨rfl, rfl⟩ := h
        · rw [run_eql_struct, hq]; rfl
        · rw [run_neq_struct, hq]; rfl
      · cases h
  · cases h

/-- A conversion. -/
def convv (P : Program) (alt : Bool) (s d : TypeId) (x : Value) : Option (Value × List (World → Prop)) :=
  match P.underlying s, P.underlying d, x with
  | some _, some (.int k), .int _ n => if wide k != alt then some (.int k n, [fun _ => InR k n]) else some (.int k (k.wrap n), [])
  | some (.int _), some .string, .int _ n => some (.string (Utf8.encode n), [])
  | some .string, some .string, .string s => some (.string s, [])
  | _, _, _ => none
theorem convv_run {P : Program} {w : World} {alt : Bool} {s d : TypeId} {x v : Value} {cs : List (World → Prop)} (h : convv P alt s d x = some (v, cs)) (hc : AllC cs w) :
    (convert s d x).run P w = .ok v w := by
  unfold convv at h
  split at h
  · rename_i u k k' n hs hd
    split at h <;> simp only [Option.some.injEq, Prod.mk.injEq] at h <;> obtain ⟨rfl, rfl⟩ := h
    · simp [convert, run_und hs, run_und hd, Conv.intToInt, wrap_in hc.1]
    · simp [convert, run_und hs, run_und hd, Conv.intToInt]
  · rename_i k k' n hs hd
    simp only [Option.some.injEq, Prod.mk.injEq] at h
    obtain ⟨rfl, rfl⟩ := h
    simp [convert, run_und hs, run_und hd, Conv.intToString]
  · rename_i s hs hd
    simp only [Option.some.injEq, Prod.mk.injEq] at h
    obtain ⟨rfl, rfl⟩ := h
    simp [convert, run_und hs, run_und hd]
  · cases h

def unv (alt : Bool) (op : UnOp) (x : Value) : Option (Value × List (World → Prop)) :=
  match op, x with
  | .not, .bool b => some (.bool (!b), [])
  | .neg, .int k n => some (arith (wide k != alt) k (0 - n))
  | .xor, .int k n => some (.int k (bitsv .xor k (if k.signed then -1 else k.max) n), [])
  | _, _ => none
theorem unv_run {P : Program} {w : World} {alt : Bool} {op : UnOp} {x v : Value} {cs : List (World → Prop)} (h : unv alt op x = some (v, cs)) (hc : AllC cs w) : (Op.unary op x).run P w = .ok v w := by
  unfold unv at h
  split at h
  · simp only [Option.some.injEq, Prod.mk.injEq] at h
    obtain ⟨rfl, rfl⟩ := h
    simp [Op.unary]
  · unfold arith at h
    split at h <;> simp only [Option.some.injEq, Prod.mk.injEq] at h <;> obtain ⟨rfl, rfl⟩ := h
    · have := wrap_in hc.1
      simp only [Int.zero_sub] at this
      simp [Op.unary, Op.intArith, this]
    · simp [Op.unary, Op.intArith]
  · simp only [Option.some.injEq, Prod.mk.injEq] at h
    obtain ⟨rfl, rfl⟩ := h
    simp only [Op.unary, Op.intBits, bitsv]
    rfl
  · cases h

/-- len, min, max. -/
def builtv (P : Program) (b : Builtin) (ts : List TypeId) (xs : List Value) : Option Value :=
  match b, ts, xs with
  | .len, [t], [x] => match P.underlying t, x with
    | some .string, .string s => some (.int .i64 s.size)
    | some (.slice _), .slice _ n _ => some (.int .i64 n)
    | some (.array n _), _ => some (.int .i64 n)
    | _, _ => none
  | .min, _, [.int k a, .int _ b] => some (.int k (min a b))
  | .max, _, [.int k a, .int _ b] => some (.int k (max a b))
  | _, _, _ => none
theorem builtv_run {P : Program} {w : World} {b : Builtin} {ts : Array TypeId} {xs : Array Value} {ty : TypeId} {consts : Array Bool} {v : Value} (h : builtv P b ts.toList xs.toList = some v) :
    (builtin b ts ty consts xs).run P w = .ok (.value v) w := by
  obtain ⟨ts⟩ := ts
  obtain ⟨xs⟩ := xs
  simp only at h
  unfold builtv at h
  split at h
  · rename_i t x
    split at h
    · rename_i s hu
      obtain rfl := Option.some.inj h
      simp [builtin, Builtin.len_, run_und hu, goInt]
    · rename_i e a n c hu
      obtain rfl := Option.some.inj h
      simp [builtin, Builtin.len_, run_und hu, goInt]
    · rename_i n e hu
      obtain rfl := Option.some.inj h
      simp [builtin, Builtin.len_, run_und hu, goInt]
    · cases h
  · rename_i k a k' b
    obtain rfl := Option.some.inj h
    have e : (if b < a then b else a) = min a b := by omega
    simp [builtin, run_min_int2, e]
  · rename_i k a k' b
    obtain rfl := Option.some.inj h
    have e : (if a < b then b else a) = max a b := by omega
    simp [builtin, run_max_int2, e]
  · cases h

def evs (f : Fr) : List Operand → Option (List Value)
  | [] => some []
  | x :: xs => match ev f x, evs f xs with
    | some v, some vs => some (v :: vs)
    | _, _ => none
theorem evs_eval {N : Nat} {f : Fr} {a : Act} (h : Has N f a) : ∀ {xs : List Operand} {vs : List Value}, evs f xs = some vs → xs.map a.eval = vs
  | [], vs, e => by simp [evs] at e; subst e; rfl
  | x :: xs, vs, e => by
    unfold evs at e
    split at e
    · rename_i v us hv hu
      obtain rfl := Option.some.inj e
      simp [ev_eval h hv, evs_eval h hu]
    · cases e
theorem evs_array {N : Nat} {f : Fr} {a : Act} (h : Has N f a) {xs : Array Operand} {vs : List Value} (e : evs f xs.toList = some vs) : xs.map a.eval = vs.toArray := by
  apply Array.toList_inj.1
  simpa using evs_eval h e

def evp (f : Fr) : List (Nat × Operand) → Option (List (Nat × Value))
  | [] => some []
  | (i, x) :: xs => match ev f x, evp f xs with
    | some v, some vs => some ((i, v) :: vs)
    | _, _ => none
theorem evp_eval {N : Nat} {f : Fr} {a : Act} (h : Has N f a) : ∀ {xs : List (Nat × Operand)} {vs : List (Nat × Value)}, evp f xs = some vs → (xs.map fun (i, x) => (i, a.eval x)) = vs
  | [], vs, e => by simp [evp] at e; subst e; rfl
  | (i, x) :: xs, vs, e => by
    unfold evp at e
    split at e
    · rename_i v us hv hu
      obtain rfl := Option.some.inj e
      have := evp_eval h hu
      simp [ev_eval h hv, this]
    · cases e

/-- What an operation yields. 'alt': sums and conversions the other way (wrapped, or not). 'lv': what the loads find. -/
def opv (P : Program) (f : Fr) (alt : Bool) (lv : List Value) (o : Op) : Option Ans :=
  match o with
  | .move x => (ev f x).map fun v => (v, [], lv)
  | .assign x => (ev f x).map fun v => (v, [], lv)
  | .pick c x y => match ev f c with
    | some (.bool true) => (ev f x).map fun v => (v, [], lv)
    | some (.bool false) => (ev f y).map fun v => (v, [], lv)
    | _ => none
  | .nilCheck x => match ev f x with
    | some (.pointer (some a)) => some (.pointer (some a), [], lv)
    | _ => none
  | .load t x => match ev f x, lv with
    | some (.pointer (some ⟨b, o, none⟩)), v :: lv' => (loadC P t b o v).map fun cs => (v, cs, lv')
    | _, _ => none
  | .fieldAddr s x i => match ev f x with
    | some v => (fieldv P s v i).map fun v => (v, [], lv)
    | none => none
  | .field t x i => match ev f x with
    | some v => (fieldOf P t v i).map fun v => (v, [], lv)
    | none => none
  | .indexAddr t x i => match ev f x, ev f i with
    | some v, some u => (indexv P t v u).map fun r => (r.1, r.2, lv)
    | _, _ => none
  | .index t x i => match ev f x, ev f i with
    | some v, some u => (strIx P t v u).map fun r => (r.1, r.2, lv)
    | _, _ => none
  | .slice t x lo hi none => match ev f x, bnd f lo, bnd f hi with
    | some v, some l, some h => (slicev P alt t v l h).map fun r => (r.1, r.2, lv)
    | _, _, _ => none
  | .extract x i => match ev f x with
    | some (.tuple vs) => (vs[i]?).map fun v => (v, [], lv)
    | _ => none
  | .binOp op t x y _ => match ev f x, ev f y with
    | some v, some u => (binv P alt op t v u).map fun r => (r.1, r.2, lv)
    | _, _ => none
  | .unOp op _ x => match ev f x with
    | some v => (unv alt op v).map fun r => (r.1, r.2, lv)
    | none => none
  | .convert s d x => match ev f x with
    | some v => (convv P alt s d v).map fun r => (r.1, r.2, lv)
    | none => none
  | .build t parts => match evp f parts.toList with
    | some ps => (buildv P t ps).map fun v => (v, [], lv)
    | none => none
  | .call { callee := .builtin b, args, argTypes } => match evs f args.toList with
    | some vs => (builtv P b argTypes.toList vs).map fun v => (v, [], lv)
    | none => none
  | _ => none

theorem bnd_is {N : Nat} {f : Fr} {a : Act} (h : Has N f a) {x : Option Operand} {i : Option Int} (e : bnd f x = some i) : isBnd (x.map a.eval) i := by
  cases x with
  | none => simp [bnd] at e; subst e; rfl
  | some x =>
    simp only [bnd] at e
    split at e
    · rename_i k j hj
      obtain rfl := Option.some.inj e
      exact ⟨k, by simp [ev_eval h hj]⟩
    · cases e

theorem opv_run {P : Program} {N : Nat} {f : Fr} {alt : Bool} {lv lv' : List Value} {o : Oper} {v : Value} {cs : List (World → Prop)} {a : Act} {w : World}
    (h : opv P f alt lv o.op = some (v, cs, lv')) (ha : Has N f a) (hc : AllC cs w) : (execOp a.eval o).run P w = .ok (.value v) w := by
  obtain ⟨dst, op, type, pos, after, guard⟩ := o
  simp only at h
  cases op
  case move x =>
    simp only [opv, Option.map_eq_some_iff, Prod.mk.injEq] at h
    obtain ⟨u, hu, rfl, _, _⟩ := h
    simp [execOp, ev_eval ha hu]
  case assign x =>
    simp only [opv, Option.map_eq_some_iff, Prod.mk.injEq] at h
    obtain ⟨u, hu, rfl, _, _⟩ := h
    simp [execOp, ev_eval ha hu]
  case pick c x y =>
    simp only [opv] at h
    split at h
    · rename_i hb
      simp only [Option.map_eq_some_iff, Prod.mk.injEq] at h
      obtain ⟨u, hu, rfl, _, _⟩ := h
      simp [execOp, ev_eval ha hu, ev_eval ha hb, asBool]
    · rename_i hb
      simp only [Option.map_eq_some_iff, Prod.mk.injEq] at h
      obtain ⟨u, hu, rfl, _, _⟩ := h
      simp [execOp, ev_eval ha hu, ev_eval ha hb, asBool]
    · cases h
  case nilCheck x =>
    simp only [opv] at h
    split at h
    · rename_i b hb
      simp only [Option.some.injEq, Prod.mk.injEq] at h
      obtain ⟨rfl, _, _⟩ := h
      simp [execOp, ev_eval ha hb]
    · cases h
  case load t x =>
    simp only [opv] at h
    split at h
    · rename_i b o u l hb
      simp only [Option.map_eq_some_iff, Prod.mk.injEq] at h
      obtain ⟨cs', hl, rfl, rfl, _⟩ := h
      simp [execOp, ev_eval ha hb, Instr.loadAt, Instr.sureAddr, run_loadC hl hc]
    · cases h
  case fieldAddr s x i =>
    simp only [opv] at h
    split at h
    · rename_i u hb
      simp only [Option.map_eq_some_iff, Prod.mk.injEq] at h
      obtain ⟨r, hr, rfl, rfl, _⟩ := h
      simp [execOp, ev_eval ha hb, fieldv_run hr]
    · cases h
  case field t x i =>
    simp only [opv] at h
    split at h
    · rename_i u hb
      simp only [Option.map_eq_some_iff, Prod.mk.injEq] at h
      obtain ⟨r, hr, rfl, rfl, _⟩ := h
      simp [execOp, ev_eval ha hb, fieldOf_run hr]
    · cases h
  case indexAddr t x i =>
    simp only [opv] at h
    split at h
    · rename_i u q hb hq
      simp only [Option.map_eq_some_iff, Prod.mk.injEq] at h
      obtain ⟨⟨r1, r2⟩, hr, rfl, rfl, _⟩ := h
      simp [execOp, ev_eval ha hb, ev_eval ha hq, indexv_run hr hc]
    · cases h
  case index t x i =>
    simp only [opv] at h
    split at h
    · rename_i u q hb hq
      simp only [Option.map_eq_some_iff, Prod.mk.injEq] at h
      obtain ⟨⟨r1, r2⟩, hr, rfl, rfl, _⟩ := h
      simp [execOp, ev_eval ha hb, ev_eval ha hq, strIx_run hr hc]
    · cases h
  case slice t x lo hi mx =>
    cases mx with
    | some m => simp [opv] at h
    | none =>
      simp only [opv] at h
      split at h
      · rename_i u l q hb hl hq
        simp only [Option.map_eq_some_iff, Prod.mk.injEq] at h
        obtain ⟨⟨r1, r2⟩, hr, rfl, rfl, _⟩ := h
        have := slicev_run hr (bnd_is ha hl) (bnd_is ha hq) hc
        simp [execOp, ev_eval ha hb, this]
      · cases h
  case extract x i =>
    simp only [opv] at h
    split at h
    · rename_i vs hb
      simp only [Option.map_eq_some_iff, Prod.mk.injEq] at h
      obtain ⟨r, hr, rfl, rfl, _⟩ := h
      simp [execOp, ev_eval ha hb, Instr.extract, hr]
    · cases h
  case binOp op t x y yt =>
    simp only [opv] at h
    split at h
    · rename_i u q hb hq
      simp only [Option.map_eq_some_iff, Prod.mk.injEq] at h
      obtain ⟨⟨r1, r2⟩, hr, rfl, rfl, _⟩ := h
      simp only [execOp, ev_eval ha hb, ev_eval ha hq]
      rw [Sem.run_bind, binv_run hr hc]
      rfl
    · cases h
  case unOp op t x =>
    simp only [opv] at h
    split at h
    · rename_i u hb
      simp only [Option.map_eq_some_iff, Prod.mk.injEq] at h
      obtain ⟨⟨r1, r2⟩, hr, rfl, rfl, _⟩ := h
      simp [execOp, ev_eval ha hb, unv_run hr hc]
    · cases h
  case convert s d x =>
    simp only [opv] at h
    split at h
    · rename_i u hb
      simp only [Option.map_eq_some_iff, Prod.mk.injEq] at h
      obtain ⟨⟨r1, r2⟩, hr, rfl, rfl, _⟩ := h
      simp [execOp, ev_eval ha hb, convv_run hr hc]
    · cases h
  case build t parts =>
    simp only [opv] at h
    split at h
    · rename_i ps hp
      simp only [Option.map_eq_some_iff, Prod.mk.injEq] at h
      obtain ⟨r, hr, rfl, rfl, _⟩ := h
      have e : (parts.map fun (i, x) => (i, a.eval x)) = ps.toArray := by
        apply Array.toList_inj.1
        simpa using evp_eval ha hp
      have := buildv_run (P := P) (w := w) (t := t) (parts := ps.toArray) (v := r) (by simpa using hr)
      simp only [execOp]
      rw [e]
      simp [this]
    · cases h
  case call c =>
    obtain ⟨callee, args, ts⟩ := c
    cases callee with
    | value f => simp [opv] at h
    | invoke r m => simp [opv] at h
    | builtin b =>
      simp only [opv] at h
      split at h
      · rename_i vs hv
        simp only [Option.map_eq_some_iff, Prod.mk.injEq] at h
        obtain ⟨r, hr, rfl, rfl, _⟩ := h
        have e := evs_array ha hv
        have := fun consts => builtv_run (P := P) (w := w) (b := b) (ts := ts) (xs := vs.toArray) (ty := type) (consts := consts) (v := r) (by simpa using hr)
        simp only [execOp, resolve, e, Sem.run_bind, Sem.run_pure, Result.andThen_ok, invoke]
        exact this _
      · cases h
  all_goals simp [opv] at h
end Go.Proofs.YtamccnffnljadaaDoor.X
