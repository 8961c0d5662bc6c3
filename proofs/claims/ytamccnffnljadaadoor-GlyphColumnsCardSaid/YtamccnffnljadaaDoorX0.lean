/- Frames of which the live slots alone are known; the operations that only yield a value, run by a function; its law. -/
import Derived.Tactics
import Derived.Orders
import Derived.Below
import Derived.KernelRfl
import Derived.Laws.Sem
import Derived.Laws.Entries
import Derived.Laws.Slices
import Derived.Laws.Cells
namespace Go.Proofs.YtamccnffnljadaaDoor.X
open Go

abbrev Fr := List (Nat × Value)
def get : Fr → Nat → Option Value
  | [], _ => none
  | (k, v) :: r, t => if k = t then some v else get r t

structure Has (N : Nat) (f : Fr) (a : Act) : Prop where
  size : a.tmps.size = N
  defers : a.defers = []
  get : ∀ t v, get f t = some v → a.tmps.getD t undef = v

theorem Has.put {N : Nat} {f : Fr} {a : Act} (h : Has N f a) (d : Nat) (hd : d < N) (v : Value) : Has N ((d, v) :: f) (a.put (some d) v) := by
  refine ⟨by simp [Act.put, h.size], h.defers, fun t u hg => ?_⟩
  simp only [X.get] at hg
  have hs := h.size
  by_cases e : d = t
  · rw [if_pos e] at hg
    subst e
    obtain rfl := Option.some.inj hg
    simp [Act.put, hs, hd]
  · rw [if_neg e] at hg
    have := h.get t u hg
    simp only [Act.put, Array.getD_eq_getD_getElem?] at this ⊢
    rw [Array.getElem?_setIfInBounds_ne e]
    exact this
theorem Has.none {N : Nat} {f : Fr} {a : Act} (h : Has N f a) (v : Value) : Has N f (a.put none v) := h

/-- Only these slots are kept. -/
def keep (ks : List Nat) (f : Fr) : Fr := ks.filterMap fun k => (get f k).map fun v => (k, v)
theorem get_keep (f : Fr) (t : Nat) (v : Value) : ∀ ks, get (keep ks f) t = some v → get f t = some v := by
  intro ks
  induction ks with
  | nil => intro h; simp [keep, get] at h
  | cons k ks ih =>
    intro h
    simp only [keep, List.filterMap_cons] at h ih
    cases hk : get f k with
    | none => rw [hk] at h; exact ih h
    | some u =>
      rw [hk] at h
      simp only [Option.map_some, get] at h
      by_cases e : k = t
      · rw [if_pos e] at h; subst e; rw [hk]; exact h
      · rw [if_neg e] at h; exact ih h
theorem Has.keep {N : Nat} {f : Fr} {a : Act} (h : Has N f a) (ks : List Nat) : Has N (keep ks f) a :=
  ⟨h.size, h.defers, fun t v hg => h.get t v (get_keep f t v ks hg)⟩

def ev (f : Fr) : Operand → Option Value
  | .tmp t => get f t
  | .const v => some v
  | .global g => some (.pointer (some ⟨g, 0, none⟩))
  | .func g => some (.func (.func g) #[] #[])
theorem ev_eval {N : Nat} {f : Fr} {a : Act} (h : Has N f a) {x : Operand} {v : Value} (e : ev f x = some v) : a.eval x = v := by
  cases x with
  | tmp t => exact h.get t v e
  | const u => exact Option.some.inj e
  | global g => exact Option.some.inj e
  | func g => exact Option.some.inj e

def AllC : List (World → Prop) → World → Prop
  | [], _ => True
  | c :: cs, w => c w ∧ AllC cs w
theorem AllC_append {w : World} : ∀ {xs ys : List (World → Prop)}, AllC (xs ++ ys) w ↔ AllC xs w ∧ AllC ys w
  | [], ys => by simp [AllC]
  | x :: xs, ys => by simp [AllC, AllC_append (xs := xs), and_assoc]

/-- A number lies in its kind. -/
def InR (k : IntKind) (n : Int) : Prop :=
  match k with
  | .i8 => -128 ≤ n ∧ n ≤ 127
  | .i16 => -32768 ≤ n ∧ n ≤ 32767
  | .i32 => -2147483648 ≤ n ∧ n ≤ 2147483647
  | .i64 => -9223372036854775808 ≤ n ∧ n ≤ 9223372036854775807
  | .u8 => 0 ≤ n ∧ n ≤ 255
  | .u16 => 0 ≤ n ∧ n ≤ 65535
  | .u32 => 0 ≤ n ∧ n ≤ 4294967295
  | .u64 => 0 ≤ n ∧ n ≤ 18446744073709551615
theorem wrap_in {k : IntKind} {n : Int} (h : InR k n) : k.wrap n = n := by
  cases k <;> simp only [InR] at h <;> simp [IntKind.wrap, IntKind.bits, IntKind.signed] <;> omega

/-- The byte of a string. -/
def bt (s : ByteArray) (i : Int) : Int := if h : i.toNat < s.size then ((s[i.toNat]'h).toNat : Int) else 0
theorem bt_range (s : ByteArray) (i : Int) : 0 ≤ bt s i ∧ bt s i ≤ 255 := by
  unfold bt
  split
  · rename_i h
    have := (s[i.toNat]'h).toNat_lt
    omega
  · omega

abbrev Ans := Value × List (World → Prop) × List Value

def szOf (P : Program) (t : TypeId) : Option Nat := (P.info? t).map (·.size)
def isAggB (P : Program) (t : TypeId) : Option Bool := (P.underlying t).map fun d => match d with | .struct _ | .array _ _ => true | _ => false
def cellsC (b o : Nat) : List Value → List (World → Prop)
  | [] => []
  | v :: vs => (fun w => w.cell? ⟨b, o, none⟩ = some v) :: cellsC b (o + 1) vs
def loadC (P : Program) (t : TypeId) (b o : Nat) (v : Value) : Option (List (World → Prop)) :=
  match isAggB P t, szOf P t, v with
  | some true, some n, .agg cs => if cs.size = n then some (cellsC b o cs.toList) else none
  | some false, _, v => some [fun w => w.cell? ⟨b, o, none⟩ = some v]
  | _, _, _ => none

/-- A sum, a difference, a product: 'nw': it is shown to lie in its kind; else it is wrapped. -/
def arith (nw : Bool) (k : IntKind) (n : Int) : Value × List (World → Prop) := if nw then (.int k n, [fun _ => InR k n]) else (.int k (k.wrap n), [])
def wide (k : IntKind) : Bool := match k with | .i64 | .i32 => true | _ => false

def bitsv (op : BinOp) (k : IntKind) (x y : Int) : Int :=
  let a := BitVec.ofInt k.bits x
  let b := BitVec.ofInt k.bits y
  match op with
  | .and => k.wrap (a &&& b).toNat
  | .or => k.wrap (a ||| b).toNat
  | .xor => k.wrap (a ^^^ b).toNat
  | _ => k.wrap (a &&& ~~~b).toNat

def intv (alt : Bool) (op : BinOp) (k : IntKind) (a b : Int) : Option (Value × List (World → Prop)) :=
  match op with
  | .add => some (arith (wide k != alt) k (a + b))
  | .sub => some (arith (wide k != alt) k (a - b))
  | .mul => some (arith (wide k != alt) k (a * b))
  | .quo => some (.int k (a / b), [fun _ => 0 ≤ a ∧ 0 < b, fun _ => InR k (a / b)])
  | .rem => some (.int k (a % b), [fun _ => 0 ≤ a ∧ 0 < b])
  | .and => some (.int k (bitsv .and k a b), [])
  | .or => some (.int k (bitsv .or k a b), [])
  | .xor => some (.int k (bitsv .xor k a b), [])
  | .andNot => some (.int k (bitsv .andNot k a b), [])
  | .eql => some (.bool (a == b), [])
  | .neq => some (.bool (a != b), [])
  | .lss => some (.bool (decide (a < b)), [])
  | .leq => some (.bool (decide (a ≤ b)), [])
  | .gtr => some (.bool (decide (b < a)), [])
  | .geq => some (.bool (decide (b ≤ a)), [])
  | _ => none

theorem intv_run {P : Program} {w : World} {alt : Bool} {op : BinOp} {k : IntKind} {a b : Int} {v : Value} {cs : List (World → Prop)} {t : TypeId}
    (h : intv alt op k a b = some (v, cs)) (hc : AllC cs w) : (binOp op t (.int k a) (.int k b)).run P w = .ok v w := by
  cases op <;> simp only [intv, Option.some.injEq, Prod.mk.injEq, reduceCtorEq] at h
  case add =>
    unfold arith at h
    split at h <;> simp only [Prod.mk.injEq] at h <;> obtain ⟨rfl, rfl⟩ := h
    · simp [binOp, Op.intArith, wrap_in hc.1]
    · simp [binOp, Op.intArith]
  case sub =>
    unfold arith at h
    split at h <;> simp only [Prod.mk.injEq] at h <;> obtain ⟨rfl, rfl⟩ := h
    · simp [binOp, Op.intArith, wrap_in hc.1]
    · simp [binOp, Op.intArith]
  case mul =>
    unfold arith at h
    split at h <;> simp only [Prod.mk.injEq] at h <;> obtain ⟨rfl, rfl⟩ := h
    · simp [binOp, Op.intArith, wrap_in hc.1]
    · simp [binOp, Op.intArith]
  case quo =>
    obtain ⟨rfl, rfl⟩ := h
    obtain ⟨⟨h1, h2⟩, h3, _⟩ := hc
    have hne : b ≠ 0 := by omega
    simp [binOp, Op.intDiv, hne, Int.tdiv_eq_ediv_of_nonneg h1, wrap_in h3]
  case rem =>
    obtain ⟨rfl, rfl⟩ := h
    obtain ⟨⟨h1, h2⟩, _⟩ := hc
    have hne : b ≠ 0 := by omega
    simp [binOp, Op.intDiv, hne, Int.tmod_eq_emod_of_nonneg h1]
  all_goals
    obtain ⟨rfl, rfl⟩ := h
    simp [binOp, Op.intBits, Op.intCmp, bitsv]
end Go.Proofs.YtamccnffnljadaaDoor.X
