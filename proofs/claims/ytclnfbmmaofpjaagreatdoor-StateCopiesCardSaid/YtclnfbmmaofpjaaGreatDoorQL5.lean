/- What the proof of StateCopies needs, part 5: the walks of the program's functions and the plain laws about them. -/
import Derived.Test.YtclnfbmmaofpjaaGreatDoorQL4
import Derived.Laws.IdiomStrings
import Derived.Lib.AppendStr
set_option linter.unusedSimpArgs false
set_option linter.unusedVariables false
namespace Go.Proofs.YtclnfbmmaofpjaaGreatDoor.X
open Go Go.RowKit Go.Proofs.YtclnfbmmaofpjaaGreatDoor
def qfq (l : List Int) : Prop := ∀ x ∈ l, 0 ≤ x ∧ x ≤ 255
def qjC : Nat → Nat → List Int
 | 0, n => [(n : Int)]
 | f + 1, n => if n < 128 then [(n : Int)] else ((n % 128 + 128 : Nat) : Int) :: qjC f (n / 128)
abbrev qch (n : Nat) : List Int := qjC 9 n
def qf0 : Nat → Nat → List Int → Nat × Nat
 | _, _, [] => (0, 0)
 | i, n, c :: r =>
  if (i = 9 ∧ 1 < c) ∨ 9 < i then (0, 0)
  else if c < 128 then (if c = 0 ∧ 0 < i then (0, 0) else (n + c.toNat % 128 * 128 ^ i, i + 1))
  else qf0 (i + 1) (n + c.toNat % 128 * 128 ^ i) r
abbrev qae (l : List Int) : Nat × Nat := qf0 0 0 l
theorem qe1 {f n : Nat} (h : n < 128) : qjC f n = [(n : Int)] := by
 cases f with
 | zero => rfl
 | succ f => rw [qjC, if_pos h]
theorem qgS {f n : Nat} (h : ¬ n < 128) : qjC (f + 1) n = ((n % 128 + 128 : Nat) : Int) :: qjC f (n / 128) := by rw [qjC, if_neg h]
theorem putF_ne (f n : Nat) : qjC f n ≠ [] := by
 cases f with
 | zero => exact List.cons_ne_nil _ _
 | succ f => rw [qjC]; split <;> exact List.cons_ne_nil _ _
theorem mul_pow1 (m i : Nat) : m * 128 ^ (i + 1) = 128 * m * 128 ^ i := by
 rw [Nat.pow_succ, Nat.mul_comm 128 m, Nat.mul_assoc, Nat.mul_comm (128 ^ i)]
theorem qkA : ∀ (ys : List Int) (i acc n k : Nat), qfq ys → i ≤ 9 → qf0 i acc ys = (n, k) → k = 0 ∨
  ∃ m zs, n = acc + m * 128 ^ i ∧ ys = qjC (9 - i) m ++ zs ∧ k = i + (qjC (9 - i) m).length ∧ (0 < i → 0 < m) ∧ m < 2 ^ (64 - 7 * i) := by
 intro ys
 induction ys with
 | nil =>
  intro i acc n k _ _ h
  rw [qf0] at h
  exact .inl (Prod.mk.inj h).2.symm
 | cons c r ih =>
  intro i acc n k hb hi h
  have hc := hb c (List.mem_cons_self ..)
  rw [qf0] at h
  split at h
  ·exact .inl (Prod.mk.inj h).2.symm
  ·rename_i h1
   split at h
   ·rename_i h2
    split at h
    ·exact .inl (Prod.mk.inj h).2.symm
    ·rename_i h3
     obtain ⟨rfl, rfl⟩ := Prod.mk.inj h
     have hs : c.toNat < 128 := by omega
     refine .inr ⟨c.toNat, r, by rw [Nat.mod_eq_of_lt hs], ?_, ?_, fun h0 => by omega, ?_⟩
     ·rw [qe1 hs]; simp; omega
     ·rw [qe1 hs]; rfl
     ·rcases Nat.lt_or_ge i 9 with h9 | h9
      ·have : 2 ^ 8 ≤ 2 ^ (64 - 7 * i) := Nat.pow_le_pow_right (by decide) (by omega)
       omega
      ·obtain rfl : i = 9 := by omega
       show c.toNat < 2
       omega
   ·rename_i h2
    have h9 : i + 1 ≤ 9 := by omega
    rcases ih (i + 1) _ n k (fun x hx => hb x (List.mem_cons_of_mem _ hx)) h9 h with h0 | ⟨m, zs, e1, e2, e3, e4, e5⟩
    ·exact .inl h0
    ·have h4 := e4 (Nat.succ_pos i)
     have hm : ¬ c.toNat % 128 + 128 * m < 128 := by omega
     have hf : 9 - i = (9 - (i + 1)) + 1 := by omega
     have hd : (c.toNat % 128 + 128 * m) / 128 = m := by omega
     have hr : (c.toNat % 128 + 128 * m) % 128 + 128 = c.toNat := by omega
     refine .inr ⟨c.toNat % 128 + 128 * m, zs, ?_, ?_, ?_, fun _ => by omega, ?_⟩
     ·rw [e1, mul_pow1, Nat.add_mul]; omega
     ·rw [hf, qgS hm, hd, hr, e2]
      simp; omega
     ·rw [hf, qgS hm, hd, e3, List.length_cons]; omega
     ·have : 2 ^ (64 - 7 * i) = 128 * 2 ^ (64 - 7 * (i + 1)) := by
       rw [show 64 - 7 * i = (64 - 7 * (i + 1)) + 7 by omega, Nat.pow_add]; omega
      rw [this]; omega
theorem qfW {ys : List Int} {n k : Nat} (hb : qfq ys) (h : qae ys = (n, k)) : k = 0 ∨ (ys = qch n ++ ys.drop k ∧ k ≤ ys.length ∧ n < 2 ^ 64) := by
 rcases qkA ys 0 0 n k hb (by decide) h with h0 | ⟨m, zs, e1, e2, e3, _, e5⟩
 ·exact .inl h0
 ·right
  have e : n = m := by rw [e1]; simp
  subst e
  rw [Nat.zero_add] at e3
  refine ⟨?_, ?_, e5⟩
  ·rw [e3]
   conv => rhs; rw [e2]
   rw [List.drop_left' rfl]
   exact e2
  ·rw [e3, e2, List.length_append]; exact Nat.le_add_right _ _
theorem takeN_le {ys : List Int} (hb : qfq ys) : (qae ys).2 ≤ ys.length ∧ (qae ys).1 < 2 ^ 64 := by
 rcases qfW hb (rfl : qae ys = ((qae ys).1, (qae ys).2)) with h | h
 ·refine ⟨by rw [h]; exact Nat.zero_le _, ?_⟩
  have : ∀ (ys : List Int) (i acc : Nat), (qf0 i acc ys).2 = 0 → (qf0 i acc ys).1 = 0 := by
   intro ys
   induction ys with
   | nil => intro i acc _; rfl
   | cons c r ih =>
    intro i acc h
    rw [qf0] at h ⊢
    split
    ·rfl
    ·rename_i h1
     rw [if_neg h1] at h
     split
     ·rename_i h2
      rw [if_pos h2] at h
      split
      ·rfl
      ·rename_i h3
       rw [if_neg h3] at h
       cases h
     ·rename_i h2
      rw [if_neg h2] at h
      exact ih _ _ h
  rw [this ys 0 0 h]; decide
 ·exact h.2
abbrev RS := Option (List Int)
def qO (lim : Int) : RS → Int × RS
 | none => (0, none)
 | some ys => if (qae ys).2 = 0 ∨ 9223372036854775807 < (qae ys).1 ∨ (0 < lim ∧ lim ≤ ((qae ys).1 : Int)) then (0, none) else (((qae ys).1 : Int), some (ys.drop (qae ys).2))
def qaW (most : Int) (s : RS) : ByteArray × RS :=
 match qO (if 0 < most then most + 1 else 1) s with
 | (_, none) => (E0, none)
 | (n, some ys) => if (ys.length : Int) < n then (E0, none) else (qq (ys.take n.toNat), some (ys.drop n.toNat))
def qaM (s : ByteArray) : List Int := s.data.toList.map fun b => (b.toNat : Int)
def qhV (s : ByteArray) : List Int := qch s.size ++ qaM s
theorem qgT (s : ByteArray) : (qaM s).length = s.size := by simp [qaM]
theorem qhW (s : ByteArray) : qfq (qaM s) := fun x hx => by
 obtain ⟨b, _, rfl⟩ := List.mem_map.1 hx
 have := b.toNat_lt
 omega
theorem qcM (l : List Int) : (qq l).data.toList = l.map fun n => UInt8.ofNat n.toNat := by
 have h : ∀ (l : List Int) (r : ByteArray), (l.foldl (fun r n => r.push (UInt8.ofNat n.toNat)) r).data.toList = r.data.toList ++ l.map fun n => UInt8.ofNat n.toNat := by
  intro l
  induction l with
  | nil => intro r; simp
  | cons c l ih => intro r; rw [List.foldl_cons, ih]; simp [ByteArray.push]
 have := h l ByteArray.empty
 simpa [qq] using this
theorem bytI_of {l : List Int} (h : qfq l) : qaM (qq l) = l := by
 unfold qaM
 rw [qcM, List.map_map]
 refine (List.map_congr_left fun x hx => ?_).trans (List.map_id _)
 have := h x hx
 show (((UInt8.ofNat x.toNat).toNat : Nat) : Int) = x
 rw [UInt8.toNat_ofNat_of_lt' (show x.toNat < UInt8.size by show x.toNat < 256; omega)]
 omega
theorem qcN (l : List Int) : (qq l).size = l.length := by
 have := congrArg List.length (qcM l)
 simpa using this
theorem qf1 {l : List Int} (h : qfq l) (k : Nat) : qfq (l.drop k) := fun x hx => h x (List.mem_of_mem_drop hx)
theorem qmq {l : List Int} (h : qfq l) (k : Nat) : qfq (l.take k) := fun x hx => h x (List.mem_of_mem_take hx)
def rsB (s : RS) : Prop := ∀ ys, s = some ys → qfq ys
theorem qS {lim : Int} {s : RS} {n : Int} {zs : List Int} (hs : rsB s) (h : qO lim s = (n, some zs)) : ∃ ys, s = some ys ∧ ys = qch n.toNat ++ zs ∧ 0 ≤ n ∧ n ≤ 9223372036854775807 ∧ (0 < lim → n < lim) := by
 cases s with
 | none => cases h
 | some ys =>
  refine ⟨ys, rfl, ?_⟩
  rw [qO] at h
  split at h
  ·cases h
  ·rename_i h0
   obtain ⟨rfl, e⟩ := Prod.mk.inj h
   obtain rfl := Option.some.inj e
   rcases qfW (hs ys rfl) (rfl : qae ys = ((qae ys).1, (qae ys).2)) with h1 | ⟨h1, h2, h3⟩
   ·exact absurd (.inl h1) h0
   ·exact ⟨by rw [Int.toNat_natCast]; exact h1, by omega, by omega, fun hl => by omega⟩
theorem qB {lim : Int} {s : RS} (hs : rsB s) : rsB (qO lim s).2 := by
 cases s with
 | none => exact hs
 | some ys =>
  rw [qO]
  split
  ·intro ys h; cases h
  ·intro zs h
   obtain rfl := Option.some.inj h
   exact qf1 (hs ys rfl) _
theorem qa3 {lim : Int} {s : RS} : 0 ≤ (qO lim s).1 ∧ (qO lim s).1 ≤ 9223372036854775807 ∧ (0 < lim → (qO lim s).1 < lim) := by
 cases s with
 | none => exact ⟨Int.le_refl 0, (by decide : (0 : Int) ≤ 9223372036854775807), fun h => h⟩
 | some ys =>
  rw [qO]
  split
  ·exact ⟨Int.le_refl 0, (by decide : (0 : Int) ≤ 9223372036854775807), fun h => h⟩
  ·exact ⟨by omega, by omega, fun h => by omega⟩
theorem qce {most : Int} {s : RS} {x : ByteArray} {zs : List Int} (hs : rsB s) (h : qaW most s = (x, some zs)) (h0 : 0 < most) : ∃ ys, s = some ys ∧ ys = qhV x ++ zs ∧ (x.size : Int) ≤ most := by
 unfold qaW at h
 rw [if_pos h0] at h
 split at h
 ·cases h
 ·rename_i n ys e
  split at h
  ·cases h
  ·rename_i h1
   obtain ⟨rfl, e2⟩ := Prod.mk.inj h
   obtain rfl := Option.some.inj e2
   obtain ⟨us, rfl, e3, h3, h4, h5⟩ := qS hs e
   have hb : qfq ys := by
    have := hs us rfl
    rw [e3] at this
    exact fun x hx => this x (List.mem_append_right _ hx)
   have hz : (qq (ys.take n.toNat)).size = n.toNat := by rw [qcN, List.length_take]; omega
   refine ⟨us, rfl, ?_, by rw [hz]; have := h5 (by omega); omega⟩
   unfold qhV
   rw [hz, bytI_of (qmq hb _), List.append_assoc, List.take_append_drop]
   exact e3
theorem qd1 {most : Int} {s : RS} (hs : rsB s) : rsB (qaW most s).2 := by
 unfold qaW
 split
 ·intro ys h; cases h
 ·rename_i n ys e
  split
  ·intro ys h; cases h
  ·intro zs h
   obtain rfl := Option.some.inj h
   have := qB (lim := if 0 < most then most + 1 else 1) hs
   rw [e] at this
   exact qf1 (this ys rfl) _
theorem or64 {a b k : Nat} (ha : a < 2 ^ k) (hb : ∃ c, b = c * 2 ^ k) (hs : a + b < 2 ^ 64) : ql .or .u64 (a : Int) (b : Int) = ((a + b : Nat) : Int) := by
 obtain ⟨c, rfl⟩ := hb
 have e : (BitVec.ofInt 64 (a : Int) ||| BitVec.ofInt 64 ((c * 2 ^ k : Nat) : Int)).toNat = a + c * 2 ^ k := by
  rw [BitVec.ofInt_natCast, BitVec.ofInt_natCast, BitVec.toNat_or, BitVec.toNat_ofNat, BitVec.toNat_ofNat, Nat.mod_eq_of_lt (by omega), Nat.mod_eq_of_lt (by omega), Nat.or_comm, ← Nat.shiftLeft_eq, ← Nat.shiftLeft_add_eq_or_of_lt ha, Nat.shiftLeft_eq]
  omega
 show IntKind.wrap .u64 ((BitVec.ofInt 64 (a : Int) ||| BitVec.ofInt 64 ((c * 2 ^ k : Nat) : Int)).toNat : Int) = _
 rw [e]
 exact qbP ⟨by omega, by omega⟩
theorem qmr {n : Nat} (h : n < 2 ^ 64) : IntKind.wrap .u64 (n : Int) = (n : Int) := qbP ⟨by omega, by omega⟩
theorem qms (i : Nat) : 2 ^ (7 * i) = 128 ^ i := by rw [Nat.pow_mul]
theorem qmt {i : Nat} (h : i ≤ 9) : 128 ^ i ≤ 128 ^ 9 := Nat.pow_le_pow_right (by decide) h
abbrev orT (n c : Int) (i : Nat) : Int := ql .or .u64 n (IntKind.wrap .u64 (IntKind.wrap .u64 (ql .and .u8 c 127) * 2 ^ min (7 * ((i : Nat) : Int) : Int).toNat (IntKind.bits .u64)))
theorem and127 : ∀ c, c < 256 → ql .and .u8 (c : Nat) 127 = ((c % 128 : Nat) : Int) := by decide +kernel
theorem orT_eq {n i : Nat} {c : Int} (hc : 0 ≤ c ∧ c ≤ 255) (hi : i ≤ 9) (h9 : i = 9 → c ≤ 1) (hn : n < 128 ^ i) : orT (n : Int) c i = ((n + c.toNat % 128 * 128 ^ i : Nat) : Int) := by
 have e1 : ql .and .u8 c 127 = ((c.toNat % 128 : Nat) : Int) := by
  have := and127 c.toNat (by omega)
  rwa [Int.toNat_of_nonneg hc.1] at this
 have hp := qmt hi
 have hb : c.toNat % 128 * 128 ^ i ≤ 128 ^ 9 := by
  rcases Nat.lt_or_ge i 9 with h | h
  ·have h8 : 128 ^ i ≤ 128 ^ 8 := Nat.pow_le_pow_right (by decide) (by omega)
   calc c.toNat % 128 * 128 ^ i ≤ 128 * 128 ^ 8 := Nat.mul_le_mul (by omega) h8
    _ = 128 ^ 9 := by decide
  ·have := h9 (by omega)
   calc c.toNat % 128 * 128 ^ i ≤ 1 * 128 ^ 9 := Nat.mul_le_mul (by omega) hp
    _ = 128 ^ 9 := by decide
 have e2 : (2 : Int) ^ min (7 * ((i : Nat) : Int) : Int).toNat (IntKind.bits .u64) = ((128 ^ i : Nat) : Int) := by
  rw [show min (7 * ((i : Nat) : Int) : Int).toNat (IntKind.bits .u64) = 7 * i by show min _ 64 = _; omega, ← qms]
  norm_cast
 have h64 : (2 : Nat) ^ 64 = 2 * 128 ^ 9 := by decide
 unfold orT
 rw [e1, qmr (by omega), e2, ← Int.natCast_mul, qmr (by omega)]
 refine or64 (k := 7 * i) (by rw [qms]; exact hn) ⟨c.toNat % 128, by rw [qms]⟩ (by omega)
def qct : Nat → Int → List Int → Int × Int
 | _, _, [] => (0, 0)
 | i, n, c :: r =>
  if (i = 9 ∧ 1 < c) ∨ 9 < i then (0, 0)
  else if c < 128 then (if c = 0 ∧ 0 < i then (0, 0) else (orT n c i, ((i : Nat) : Int) + 1))
  else qct (i + 1) (orT n c i) r
theorem takeG_eq : ∀ (ys : List Int) (i n : Nat), qfq ys → n < 128 ^ i → qct i (n : Int) ys = (((qf0 i n ys).1 : Int), ((qf0 i n ys).2 : Int)) := by
 intro ys
 induction ys with
 | nil => intro i n _ _; rfl
 | cons c r ih =>
  intro i n hb hn
  have hc := hb c (List.mem_cons_self ..)
  rw [qct, qf0]
  by_cases h1 : (i = 9 ∧ 1 < c) ∨ 9 < i
  ·rw [if_pos h1, if_pos h1]; rfl
  ·rw [if_neg h1, if_neg h1, orT_eq hc (by omega) (by omega) hn]
   by_cases h2 : c < 128
   ·rw [if_pos h2, if_pos h2]
    by_cases h3 : c = 0 ∧ 0 < i
    ·rw [if_pos h3, if_pos h3]; rfl
    ·rw [if_neg h3, if_neg h3]; simp
   ·rw [if_neg h2, if_neg h2]
    refine ih (i + 1) _ (fun x hx => hb x (List.mem_cons_of_mem _ hx)) ?_
    have : c.toNat % 128 * 128 ^ i ≤ 127 * 128 ^ i := Nat.mul_le_mul_right _ (by omega)
    rw [Nat.pow_succ]; omega
theorem qbT {ys : List Int} (h : qfq ys) : qct 0 0 ys = (((qae ys).1 : Int), ((qae ys).2 : Int)) := takeG_eq ys 0 0 h (by decide)
abbrev shr7 (n : Int) : Int := Int.fdiv n (2 ^ min (7 : Int).toNat (IntKind.bits .u64))
abbrev low7 (n : Int) : Int := ql .or .u8 (IntKind.wrap .u8 n) 128
theorem shr7_eq (n : Nat) : shr7 (n : Int) = ((n / 128 : Nat) : Int) := by
 show Int.fdiv (n : Int) 128 = _
 rw [Int.fdiv_eq_ediv_of_nonneg _ (by decide)]; omega
theorem or128 : ∀ c, c < 256 → ql .or .u8 (c : Nat) 128 = ((c % 128 + 128 : Nat) : Int) := by decide +kernel
theorem wrap8 (n : Nat) : IntKind.wrap .u8 (n : Int) = ((n % 256 : Nat) : Int) := by
 simp [IntKind.wrap, IntKind.bits, IntKind.signed]
theorem low7_eq (n : Nat) : low7 (n : Int) = ((n % 128 + 128 : Nat) : Int) := by
 unfold low7
 rw [wrap8, or128 _ (Nat.mod_lt _ (by decide)), Nat.mod_mod_of_dvd _ (by decide)]
def qao (f : Nat → Bool) : Nat → Nat
 | 0 => 0
 | k + 1 => qao f k + if f k = true then 2 ^ k else 0
def lb (l : List Bool) (i : Nat) : Bool := l.getD i false
def qbp (l : List Bool) : Nat := qao (lb l) l.length
theorem qdF (f : Nat → Bool) : ∀ k, qao f k < 2 ^ k
 | 0 => Nat.one_pos
 | k + 1 => by
  have := qdF f k
  rw [qao, Nat.pow_succ]
  split <;> omega
theorem qbN {f g : Nat → Bool} : ∀ {k : Nat}, (∀ i, i < k → f i = g i) → qao f k = qao g k
 | 0, _ => rfl
 | k + 1, h => by rw [qao, qao, h k (Nat.lt_succ_self k), qbN fun i hi => h i (Nat.lt_succ_of_lt hi)]
abbrev orF (n : Int) (i : Nat) : Int := ql .or .u64 n (IntKind.wrap .u64 (1 * 2 ^ min ((i : Nat) : Int).toNat (IntKind.bits .u64)))
theorem orF_eq {n i : Nat} (hi : i < 64) (hn : n < 2 ^ i) : orF (n : Int) i = ((n + 2 ^ i : Nat) : Int) := by
 have hp : 2 ^ i ≤ 2 ^ 63 := Nat.pow_le_pow_right (by decide) (by omega)
 have e2 : (2 : Int) ^ min ((i : Nat) : Int).toNat (IntKind.bits .u64) = ((2 ^ i : Nat) : Int) := by
  rw [show min ((i : Nat) : Int).toNat (IntKind.bits .u64) = i by show min _ 64 = _; omega]
  norm_cast
 unfold orF
 rw [e2, Int.one_mul, qmr (by omega)]
 exact or64 (k := i) hn ⟨1, by rw [Nat.one_mul]⟩ (by omega)
def qdG (n i : Nat) : Bool := n / 2 ^ i % 2 == 1
theorem qe2 (n : Nat) : ∀ k, qao (qdG n) k = n % 2 ^ k
 | 0 => by rw [qao]; omega
 | k + 1 => by
  rw [qao, qe2 n k, Nat.pow_succ, Nat.mod_mul]
  unfold qdG
  have := Nat.mod_two_eq_zero_or_one (n / 2 ^ k)
  rcases this with h | h <;> rw [h] <;> simp
theorem and1_eq (k : IntKind) (hk : k = .i64 ∨ k = .u64) (n : Nat) (h : n < 2 ^ 63) : ql .and k (n : Int) 1 = ((n % 2 : Nat) : Int) := by
 have e : (BitVec.ofInt 64 (n : Int) &&& BitVec.ofInt 64 1).toNat = n % 2 := by
  rw [BitVec.ofInt_natCast, BitVec.toNat_and, BitVec.toNat_ofNat, Nat.mod_eq_of_lt (by omega)]
  exact Nat.and_one_is_mod n
 rcases hk with rfl | rfl
 ·show IntKind.wrap .i64 ((BitVec.ofInt 64 (n : Int) &&& BitVec.ofInt 64 1).toNat : Int) = _
  rw [e]
  exact qbP ⟨by omega, by omega⟩
 ·show IntKind.wrap .u64 ((BitVec.ofInt 64 (n : Int) &&& BitVec.ofInt 64 1).toNat : Int) = _
  rw [e]
  exact qbP ⟨by omega, by omega⟩
theorem bit_eq (k : IntKind) (hk : k = .i64 ∨ k = .u64) {n i : Nat} (h : n < 2 ^ 63) (hi : i < 64) : ((ql .and k (Int.fdiv (n : Int) (2 ^ min ((i : Nat) : Int).toNat (IntKind.bits k))) 1 : Int) == 1) = qdG n i := by
 have e : Int.fdiv (n : Int) (2 ^ min ((i : Nat) : Int).toNat (IntKind.bits k)) = ((n / 2 ^ i : Nat) : Int) := by
  have e2 : (2 : Int) ^ min ((i : Nat) : Int).toNat (IntKind.bits k) = ((2 ^ i : Nat) : Int) := by
   rw [show min ((i : Nat) : Int).toNat (IntKind.bits k) = i by rcases hk with rfl | rfl <;> (show min _ 64 = _; omega)]
   norm_cast
  rw [e2, Int.fdiv_eq_ediv_of_nonneg _ (Int.natCast_nonneg _)]
  norm_cast
 rw [e, and1_eq k hk _ (Nat.lt_of_le_of_lt (Nat.div_le_self _ _) h)]
 unfold qdG
 have := Nat.mod_two_eq_zero_or_one (n / 2 ^ i)
 rcases this with h | h <;> rw [h] <;> rfl
def qe3 (s : Sty) : Nat := s.fore.toNat + 16 * s.back.toNat + (if s.bold = true then 256 else 0) + (if s.under = true then 512 else 0) + if s.turned = true then 1024 else 0
def qmu (n : Nat) : Sty := ⟨n / 256 % 2 == 1, n / 512 % 2 == 1, n / 1024 % 2 == 1, ((n % 16 : Nat) : Int), ((n / 16 % 16 : Nat) : Int)⟩
theorem qiJ : ∀ n, n < 2048 → qe3 (qmu n) = n := by decide +kernel
theorem qjD {s : Sty} (h : qA s = true) : qe3 s < 2048 := by
 simp only [qA, Bool.and_eq_true, decide_eq_true_eq] at h
 unfold qe3
 split <;> split <;> split <;> omega
def qfr (s : RS) : Sty × Bool × RS := if ((qO 2048 s).2.isSome && qA (qmu (qO 2048 s).1.toNat)) = true then (qmu (qO 2048 s).1.toNat, true, (qO 2048 s).2) else (qc0, false, (qO 2048 s).2)
theorem qhX {s : RS} {x : Sty} {s' : RS} (hs : rsB s) (h : qfr s = (x, true, s')) : ∃ ys zs, s = some ys ∧ s' = some zs ∧ ys = qch (qe3 x) ++ zs ∧ qA x = true := by
 unfold qfr at h
 split at h
 ·rename_i h1
  simp only [Prod.mk.injEq, true_and] at h
  obtain ⟨rfl, rfl⟩ := h
  rw [Bool.and_eq_true] at h1
  obtain ⟨h1, h2⟩ := h1
  obtain ⟨zs, hz⟩ := Option.isSome_iff_exists.1 h1
  obtain ⟨ys, e1, e2, e3, e4, e5⟩ := qS hs (Prod.ext rfl hz)
  have h7 : (qO 2048 s).1.toNat < 2048 := by have h8 : (qO 2048 s).1 < 2048 := e5 (by decide); omega
  exact ⟨ys, zs, e1, hz, by rw [qiJ _ h7]; exact e2, h2⟩
 ·simp at h
theorem qhY {s : RS} (hs : rsB s) : rsB (qfr s).2.2 := by
 unfold qfr
 split <;> exact qB hs
def qel (n : Nat) (c : Cel) : List Int := qch n ++ (qch c.rune.toNat ++ qch (qe3 c.sty))
def qfs (c : Cel) : List (Nat × Cel) → List (Nat × Cel)
 | [] => [(1, c)]
 | (n, d) :: t => if d = c then (n + 1, d) :: t else (1, c) :: (n, d) :: t
def qdH : List Cel → List (Nat × Cel)
 | [] => []
 | c :: r => qfs c (qdH r)
def qaS (l : List Cel) : List Int := (qdH l).flatMap fun p => qel p.1 p.2
theorem consR_ne (c : Cel) (t : List (Nat × Cel)) : qfs c t ≠ [] := by
 unfold qfs
 split
 ·exact List.cons_ne_nil _ _
 ·split <;> exact List.cons_ne_nil _ _
theorem runsL_ne {l : List Cel} (h : l ≠ []) : qdH l ≠ [] := by
 cases l with
 | nil => exact absurd rfl h
 | cons c r => exact consR_ne _ _
theorem qkB : ∀ {l : List Cel} {n : Nat} {d : Cel} {t : List (Nat × Cel)}, qdH l = (n, d) :: t → l.head? = some d
 | [], _, _, _, h => by cases h
 | c :: r, n, d, t, h => by
  unfold qdH qfs at h
  split at h
  ·simp only [List.cons.injEq, Prod.mk.injEq] at h
   rw [← h.1.2]; rfl
  ·split at h
   ·rename_i e
    simp only [List.cons.injEq, Prod.mk.injEq] at h
    rw [← h.1.2, e]; rfl
   ·simp only [List.cons.injEq, Prod.mk.injEq] at h
    rw [← h.1.2]; rfl
theorem qdI (c : Cel) (r : List Cel) (h : r.head? ≠ some c) : ∀ n, qdH (List.replicate (n + 1) c ++ r) = (n + 1, c) :: qdH r
 | 0 => by
  show qfs c (qdH r) = _
  unfold qfs
  split
  ·rename_i e; rw [e]
  ·rename_i n d t e
   rw [if_neg (fun hd => h (by rw [qkB e, hd])), e]
 | n + 1 => by
  rw [List.replicate_succ]
  show qfs c (qdH (List.replicate (n + 1) c ++ r)) = _
  rw [qdI c r h n, qfs, if_pos rfl]
theorem qhZ {c : Cel} {r : List Cel} (h : r.head? ≠ some c) (n : Nat) : qaS (List.replicate (n + 1) c ++ r) = qel (n + 1) c ++ qaS r := by
 unfold qaS
 rw [qdI c r h n]; rfl
theorem qfX {c : Cel} {n : Nat} : ∀ {l : List Cel}, l.getLast? ≠ some c → qdH (l ++ List.replicate (n + 1) c) = qdH l ++ [(n + 1, c)]
 | [], _ => by
  have := qdI c [] (by simp) n
  rw [List.append_nil] at this
  exact this
 | d :: r, h => by
  show qfs d (qdH (r ++ List.replicate (n + 1) c)) = qfs d (qdH r) ++ _
  cases r with
  | nil =>
   have hd : ¬ c = d := fun e => h (by rw [e]; rfl)
   have := qdI c [] (by simp) n
   rw [List.append_nil] at this
   rw [List.nil_append, this]
   show (if c = d then _ else _) = _
   rw [if_neg hd]; rfl
  | cons e r =>
   have h2 : (e :: r).getLast? ≠ some c := by rw [List.getLast?_cons_cons] at h; exact h
   rw [qfX h2]
   have h3 := runsL_ne (List.cons_ne_nil e r)
   match hq : qdH (e :: r), h3 with
   | (k, q) :: t, _ =>
    show (if q = d then (k + 1, q) :: (t ++ _) else (1, d) :: (k, q) :: (t ++ _)) = (if q = d then (k + 1, q) :: t else (1, d) :: (k, q) :: t) ++ _
    split <;> rfl
theorem qkC {c : Cel} {n : Nat} {l : List Cel} (h : l.getLast? ≠ some c) (hn : 0 < n) : qaS (l ++ List.replicate n c) = qaS l ++ qel n c := by
 obtain ⟨n, rfl⟩ : ∃ m, n = m + 1 := ⟨n - 1, by omega⟩
 unfold qaS
 rw [qfX h, List.flatMap_append]; simp
def cOk (c : Cel) : Prop := qA c.sty = true ∧ 0 ≤ c.rune ∧ c.rune < 1114112
def qi0 (W : Int) (out : List Cel) (s : RS) : Option (List Cel) × RS :=
 if (qfr (qO 1114112 (qO (W - (out.length : Int) + 1) s).2).2).2.1 = false ∨ (qO (W - (out.length : Int) + 1) s).1 = 0 ∨ out.getLast? = some ⟨(qO 1114112 (qO (W - (out.length : Int) + 1) s).2).1, (qfr (qO 1114112 (qO (W - (out.length : Int) + 1) s).2).2).1⟩ then (none, (qfr (qO 1114112 (qO (W - (out.length : Int) + 1) s).2).2).2.2)
 else (some (out ++ List.replicate (qO (W - (out.length : Int) + 1) s).1.toNat ⟨(qO 1114112 (qO (W - (out.length : Int) + 1) s).2).1, (qfr (qO 1114112 (qO (W - (out.length : Int) + 1) s).2).2).1⟩), (qfr (qO 1114112 (qO (W - (out.length : Int) + 1) s).2).2).2.2)
theorem qcm {W : Int} {out : List Cel} {s s1 s2 s3 : RS} {n r : Int} {t : Sty} {ok : Bool} (h1 : qO (W - (out.length : Int) + 1) s = (n, s1)) (h2 : qO 1114112 s1 = (r, s2)) (h3 : qfr s2 = (t, ok, s3)) :
  qi0 W out s = if ok = false ∨ n = 0 ∨ out.getLast? = some ⟨r, t⟩ then (none, s3) else (some (out ++ List.replicate n.toNat ⟨r, t⟩), s3) := by
 unfold qi0
 rw [h1]
 dsimp only
 rw [h2]
 dsimp only
 rw [h3]
def qbF : Nat → Int → List Cel → RS → Option (List Cel) × RS
 | 0, _, out, s => (some out, s)
 | f + 1, W, out, s => if W ≤ (out.length : Int) then (some out, s) else match qi0 W out s with
  | (none, s') => (none, s')
  | (some o, s') => qbF f W o s'
def qdc (W : Int) (s : RS) : List Cel × Bool × RS := match qbF W.toNat W [] s with
 | (none, s') => ([], false, s')
 | (some o, s') => if qbo o = true then (o, true, s') else ([], false, s')
theorem qd2 {f : Nat} {W : Int} {out : List Cel} {s : RS} (h : W ≤ (out.length : Int)) : qbF f W out s = (some out, s) := by
 cases f with
 | zero => rfl
 | succ f => rw [qbF, if_pos h]
theorem qf2 {f : Nat} {W : Int} {out : List Cel} {s s' : RS} (h : ¬ W ≤ (out.length : Int)) (hf : W.toNat - out.length ≤ f) (hs : qi0 W out s = (none, s')) : qbF f W out s = (none, s') := by
 cases f with
 | zero => omega
 | succ f => rw [qbF, if_neg h, hs]
theorem qjE {f : Nat} {W : Int} {out o : List Cel} {s s' : RS} (h : ¬ W ≤ (out.length : Int)) (hf : W.toNat - out.length ≤ f) (hs : qi0 W out s = (some o, s')) : ∃ f', f = f' + 1 ∧ qbF f W out s = qbF f' W o s' := by
 cases f with
 | zero => omega
 | succ f => exact ⟨f, rfl, by rw [qbF, if_neg h, hs]⟩
theorem qkD {W : Int} {out : List Cel} {s : RS} (hs : rsB s) : rsB (qi0 W out s).2 := by
 unfold qi0
 split <;> exact qhY (qB (qB hs))
theorem qfY : ∀ (f : Nat) {W : Int} {out : List Cel} {s : RS}, rsB s → rsB (qbF f W out s).2
 | 0, _, _, _, h => h
 | f + 1, W, out, s, h => by
  rw [qbF]
  split
  ·exact h
  ·have := qkD (W := W) (out := out) h
   split
   ·rename_i e; rw [e] at this; exact this
   ·rename_i e; rw [e] at this; exact qfY f this
theorem qe4 {W : Int} {s : RS} (hs : rsB s) : rsB (qdc W s).2.2 := by
 have := qfY W.toNat (W := W) (out := []) hs
 unfold qdc
 split
 ·rename_i e; rw [e] at this; exact this
 ·rename_i e
  rw [e] at this
  split <;> exact this
theorem qkE : ∀ (f : Nat) (W : Int) (out o : List Cel) (ys : List Int) (s' : RS), qfq ys → (out.length : Int) ≤ W → (∀ c ∈ out, cOk c) → W.toNat - out.length ≤ f → qbF f W out (some ys) = (some o, s') →
  ∃ zs, s' = some zs ∧ qaS out ++ ys = qaS o ++ zs ∧ (o.length : Int) = W ∧ ∀ c ∈ o, cOk c := by
 intro f
 induction f with
 | zero =>
  intro W out o ys s' hb hl hc hf h
  simp only [qbF, Prod.mk.injEq, Option.some.injEq] at h
  obtain ⟨rfl, rfl⟩ := h
  exact ⟨ys, rfl, rfl, by omega, hc⟩
 | succ f ih =>
  intro W out o ys s' hb hl hc hf h
  rw [qbF] at h
  split at h
  ·simp only [Prod.mk.injEq, Option.some.injEq] at h
   obtain ⟨rfl, rfl⟩ := h
   exact ⟨ys, rfl, rfl, by omega, hc⟩
  ·rename_i hW
   obtain ⟨n, s1, h1⟩ : ∃ n s1, qO (W - (out.length : Int) + 1) (some ys) = (n, s1) := ⟨_, _, rfl⟩
   obtain ⟨r, s2, h2⟩ : ∃ n s2, qO 1114112 s1 = (n, s2) := ⟨_, _, rfl⟩
   obtain ⟨t, ok, s3, h3⟩ : ∃ t ok s3, qfr s2 = (t, ok, s3) := ⟨_, _, _, rfl⟩
   rw [qcm h1 h2 h3] at h
   split at h
   ·rename_i e
    split at e
    ·cases h
    ·cases e
   ·rename_i o2 s3' e
    split at e
    ·cases e
    ·rename_i hn
     simp only [Prod.mk.injEq, Option.some.injEq] at e
     obtain ⟨rfl, rfl⟩ := e
     simp only [not_or] at hn
     obtain ⟨n1, n2, n3⟩ := hn
     have hok : ok = true := by cases ok <;> simp_all
     subst hok
     have hs0 : rsB (some ys) := fun x hx => by cases hx; exact hb
     have b1 := qB (lim := W - (out.length : Int) + 1) hs0
     rw [h1] at b1
     have b2 := qB (lim := 1114112) b1
     rw [h2] at b2
     obtain ⟨y3, z3, e3, e3', e3'', hst⟩ := qhX b2 h3
     subst e3 e3'
     obtain ⟨y2, e2, e2', p2, p2', p2''⟩ := qS b1 h2
     subst e2
     obtain ⟨y1, e1, e1', p1, p1', p1''⟩ := qS hs0 h1
     obtain rfl := Option.some.inj e1
     have hn0 : 0 < n.toNat := by omega
     have hlim := p1'' (by omega)
     have hb3 : qfq z3 := by
      have := b2 y3 rfl
      rw [e3''] at this
      exact fun x hx => this x (List.mem_append_right _ hx)
     obtain ⟨zs, q1, q2, q3, q4⟩ := ih W _ o z3 s' hb3 (by rw [List.length_append, List.length_replicate]; omega) (fun c hc' => by
      rcases List.mem_append.1 hc' with h | h
      ·exact hc c h
      ·rw [(List.mem_replicate.1 h).2]; exact ⟨hst, p2, by have := p2'' (by decide); exact this⟩) (by rw [List.length_append, List.length_replicate]; omega) h
     refine ⟨zs, q1, ?_, q3, q4⟩
     rw [← q2, qkC n3 hn0, e1', e2', e3'']
     unfold qel
     simp only [List.append_assoc]
theorem qkF {W : Int} {s : RS} {o : List Cel} {s' : RS} (hs : rsB s) (hW : 0 < W) (h : qdc W s = (o, true, s')) : ∃ ys zs, s = some ys ∧ s' = some zs ∧ ys = qaS o ++ zs ∧ (o.length : Int) = W ∧ qbo o = true ∧ ∀ c ∈ o, cOk c := by
 unfold qdc at h
 cases s with
 | none =>
  obtain ⟨f, hf⟩ : ∃ f, W.toNat = f + 1 := ⟨W.toNat - 1, by omega⟩
  rw [hf, qbF, if_neg (by simpa using hW)] at h
  have : qi0 W [] none = (none, none) := by
   rw [qcm (n := 0) (s1 := none) (r := 0) (s2 := none) (t := qc0) (ok := false) (s3 := none) rfl rfl rfl, if_pos (.inl rfl)]
  rw [this] at h
  simp at h
 | some ys =>
  split at h
  ·simp at h
  ·rename_i o2 s2 e
   split at h
   ·rename_i hw
    simp only [Prod.mk.injEq, true_and] at h
    obtain ⟨rfl, rfl⟩ := h
    obtain ⟨zs, q1, q2, q3, q4⟩ := qkE W.toNat W [] o2 ys s2 (hs ys rfl) (by simp; omega) (fun c hc => by cases hc) (by simp) e
    exact ⟨ys, zs, rfl, q1, q2, q3, hw, q4⟩
   ·simp at h
def qaa (W : Int) : Nat → List (List Cel) → RS → Bool → List (List Cel) × RS × Bool
 | 0, out, s, f => (out, s, f)
 | k + 1, out, s, f => if (f && (qdc W s).2.1) = true then qaa W k (out ++ [(qdc W s).1]) (qdc W s).2.2 true else ([], (qdc W s).2.2, false)
theorem qba {W : Int} : ∀ (k : Nat) {out : List (List Cel)} {s : RS} {f : Bool}, rsB s → rsB (qaa W k out s f).2.1
 | 0, _, _, _, h => h
 | k + 1, out, s, f, h => by
  rw [qaa]
  split
  ·exact qba k (qe4 h)
  ·exact qe4 h
theorem qcn {W : Int} (hW : 0 < W) : ∀ (k : Nat) {out L : List (List Cel)} {s s' : RS} {f : Bool}, rsB s → s.isSome = true ∨ 0 < k → qaa W k out s f = (L, s', true) →
  ∃ M ys zs, f = true ∧ L = out ++ M ∧ s = some ys ∧ s' = some zs ∧ ys = M.flatMap qaS ++ zs ∧ M.length = k ∧ ∀ l ∈ M, (l.length : Int) = W ∧ qbo l = true ∧ ∀ c ∈ l, cOk c
 | 0, out, L, s, s', f, hs, h0, h => by
  simp only [qaa, Prod.mk.injEq] at h
  obtain ⟨rfl, rfl, rfl⟩ := h
  obtain ⟨ys, rfl⟩ := Option.isSome_iff_exists.1 (h0.resolve_right (by decide))
  exact ⟨[], ys, ys, rfl, (List.append_nil _).symm, rfl, rfl, rfl, rfl, fun l hl => by cases hl⟩
 | k + 1, out, L, s, s', f, hs, h0, h => by
  obtain ⟨l1, ok1, s1, hL⟩ : ∃ a b c, qdc W s = (a, b, c) := ⟨_, _, _, rfl⟩
  have hb := qe4 (W := W) hs
  rw [qaa, hL] at h
  rw [hL] at hb
  dsimp only at h hb
  split at h
  ·rename_i hf
   rw [Bool.and_eq_true] at hf
   obtain ⟨hf, rfl⟩ := hf
   obtain ⟨ys, zs, e1, rfl, e3, e4, e5, e6⟩ := qkF hs hW hL
   obtain ⟨M, ys2, zs2, _, q1, q2, q3, q4, q5, q6⟩ := qcn hW k hb (.inl rfl) h
   obtain rfl := Option.some.inj q2
   exact ⟨l1 :: M, ys, zs2, hf, by rw [q1]; simp, e1, q3, by rw [e3, q4]; simp, by simp [q5], fun l hl => by
    rcases List.mem_cons.1 hl with rfl | hl
    ·exact ⟨e4, e5, e6⟩
    ·exact q6 l hl⟩
  ·simp at h
def qe5 : Nat → List (List Cel) → RS → Bool → List (List Cel) × RS × Bool
 | 0, out, s, f => (out, s, f)
 | k + 1, out, s, f => if ((qaa (qO 61 s).1 1 [] (qO 61 s).2 f).2.2 && decide (0 < (qO 61 s).1)) = true then qe5 k (out ++ (qaa (qO 61 s).1 1 [] (qO 61 s).2 f).1) (qaa (qO 61 s).1 1 [] (qO 61 s).2 f).2.1 true else ([], (qaa (qO 61 s).1 1 [] (qO 61 s).2 f).2.1, false)
def qft (s : RS) (f : Bool) : List (List Cel) × RS × Bool := qe5 (qO 21 s).1.toNat [] (qO 21 s).2 f
def qkG (B : List (List Cel)) : List Int := B.flatMap fun l => qch l.length ++ qaS l
theorem qfZ : ∀ (k : Nat) {out : List (List Cel)} {s : RS} {f : Bool}, rsB s → rsB (qe5 k out s f).2.1
 | 0, _, _, _, h => h
 | k + 1, out, s, f, h => by
  rw [qe5]
  split
  ·exact qfZ k (qba 1 (qB h))
  ·exact qba 1 (qB h)
theorem qg0 : ∀ (k : Nat) {out L : List (List Cel)} {s s' : RS} {f : Bool}, rsB s → s.isSome = true ∨ 0 < k → qe5 k out s f = (L, s', true) →
  ∃ M ys zs, f = true ∧ L = out ++ M ∧ s = some ys ∧ s' = some zs ∧ ys = qkG M ++ zs ∧ M.length = k ∧ ∀ l ∈ M, 0 < l.length ∧ l.length ≤ 60 ∧ qbo l = true ∧ ∀ c ∈ l, cOk c
 | 0, out, L, s, s', f, hs, h0, h => by
  simp only [qe5, Prod.mk.injEq] at h
  obtain ⟨rfl, rfl, rfl⟩ := h
  obtain ⟨ys, rfl⟩ := Option.isSome_iff_exists.1 (h0.resolve_right (by decide))
  exact ⟨[], ys, ys, rfl, (List.append_nil _).symm, rfl, rfl, rfl, rfl, fun l hl => by cases hl⟩
 | k + 1, out, L, s, s', f, hs, h0, h => by
  obtain ⟨n, s1, hN⟩ : ∃ a b, qO 61 s = (a, b) := ⟨_, _, rfl⟩
  have hb := qB (lim := 61) hs
  rw [qe5, hN] at h
  rw [hN] at hb
  dsimp only at h hb
  obtain ⟨L1, s2, f2, hL⟩ : ∃ a b c, qaa n 1 [] s1 f = (a, b, c) := ⟨_, _, _, rfl⟩
  have hb2 := qba (W := n) 1 (out := []) (f := f) hb
  rw [hL] at h hb2
  dsimp only at h hb2
  split at h
  ·rename_i hf
   rw [Bool.and_eq_true, decide_eq_true_eq] at hf
   obtain ⟨rfl, hw⟩ := hf
   obtain ⟨M1, y1, z1, f1, q1, rfl, rfl, q4, q5, q6⟩ := qcn hw 1 hb (.inr (by decide)) hL
   obtain ⟨ys, e1, e2, e3, e4, e5⟩ := qS hs hN
   obtain ⟨l, rfl⟩ : ∃ l, M1 = [l] := by
    match M1, q5 with
    | [l], _ => exact ⟨l, rfl⟩
   have hl := q6 l (List.mem_singleton.2 rfl)
   have e6 := e5 (by decide)
   obtain ⟨M, y2, z2, _, p1, p2, p3, p4, p5, p6⟩ := qg0 k hb2 (.inl rfl) h
   obtain rfl := Option.some.inj p2
   refine ⟨l :: M, ys, z2, f1, by rw [p1, q1]; simp, e1, p3, ?_, by simp [p5], fun m hm => ?_⟩
   ·rw [e2, q4, p4]
    unfold qkG
    rw [show n.toNat = l.length by have := hl.1; omega]
    simp
   ·rcases List.mem_cons.1 hm with rfl | hm
    ·exact ⟨by have := hl.1; omega, by have := hl.1; omega, hl.2⟩
    ·exact p6 m hm
  ·simp at h
theorem qkH {s s' : RS} {L : List (List Cel)} {f : Bool} (hs : rsB s) (h : qft s f = (L, s', true)) (hz : s'.isSome = true) : ∃ ys zs, f = true ∧ s = some ys ∧ s' = some zs ∧ ys = qch L.length ++ (qkG L ++ zs) ∧ L.length ≤ 20 ∧ ∀ l ∈ L, 0 < l.length ∧ l.length ≤ 60 ∧ qbo l = true ∧ ∀ c ∈ l, cOk c := by
 obtain ⟨n, s1, hN⟩ : ∃ a b, qO 21 s = (a, b) := ⟨_, _, rfl⟩
 have hb := qB (lim := 21) hs
 unfold qft at h
 rw [hN] at h hb
 dsimp only at h hb
 have h0 : s1.isSome = true ∨ 0 < n.toNat := by
  rcases Nat.eq_zero_or_pos n.toNat with h1 | h1
  ·rw [h1] at h
   simp only [qe5, Prod.mk.injEq] at h
   rw [h.2.1]; exact .inl hz
  ·exact .inr h1
 obtain ⟨M, y1, z1, f1, q1, rfl, q3, q4, q5, q6⟩ := qg0 _ hb h0 h
 obtain ⟨ys, e1, e2, e3, e4, e5⟩ := qS hs hN
 have e6 := e5 (by decide)
 rw [List.nil_append] at q1
 subst q1
 exact ⟨ys, z1, f1, e1, q3, by rw [e2, q4, q5], by omega, q6⟩
structure uR (u : US) : Prop where
 n : 0 ≤ u.n ∧ u.n ≤ 3
 b0 : u.n ≤ 0 → u.b0 = 0
 b1 : u.n ≤ 1 → u.b1 = 0
 b2 : u.n ≤ 2 → u.b2 = 0
 f : u.n = 0 ∨ qbn u.pend = false
theorem sz_all : ∀ c, c < 256 → ql .and .u8 (firstN c) 7 ≤ 4 := by decide +kernel
theorem uR0 : uR u0 := ⟨by decide, fun _ => rfl, fun _ => rfl, fun _ => rfl, .inl rfl⟩
theorem qmv {l : List Int} (h : ∀ x ∈ l, 0 ≤ x ∧ x ≤ 255) : ∀ k, ¬ (0 < (itU l k).2.length ∧ qbn (itU l k).2 = true) ∨ (itU l k).2.length + k ≤ l.length
 | 0 => .inr (by show l.length + 0 ≤ l.length; omega)
 | k + 1 => by
  by_cases hc : 0 < (itU l k).2.length ∧ qbn (itU l k).2 = true
  ·have ih := (qmv h k).resolve_left (fun h => h hc)
   right
   have := qiw (qcB h k) hc.1
   rw [qfK hc.1 hc.2]
   simp only [List.length_drop]
   omega
  ·left
   have := qgx hc 1
   rw [this]; exact hc
theorem qmw {u : US} (h : u.ok) {c : Int} (hc : 0 ≤ c ∧ c ≤ 255) : ((itU (u.pend ++ [c]) 4).2 = [] ∨ qbn (itU (u.pend ++ [c]) 4).2 = false) ∧ (itU (u.pend ++ [c]) 4).2.length ≤ 3 := by
 have hl : ∀ x ∈ u.pend ++ [c], 0 ≤ x ∧ x ≤ 255 := fun x hx => by
  rcases List.mem_append.1 hx with hx | hx
  ·exact h.pend x hx
  ·rw [List.mem_singleton.1 hx]; exact hc
 have hn : (u.pend ++ [c]).length ≤ 4 := by rw [List.length_append, h.len]; have := h.n; simp only [List.length_cons, List.length_nil]; omega
 have h1 : (itU (u.pend ++ [c]) 4).2 = [] ∨ qbn (itU (u.pend ++ [c]) 4).2 = false := by
  rcases qmv hl 4 with h4 | h4
  ·rcases Nat.eq_zero_or_pos (itU (u.pend ++ [c]) 4).2.length with h0 | h0
   ·exact .inl (List.eq_nil_of_length_eq_zero h0)
   ·exact .inr (by cases e : qbn (itU (u.pend ++ [c]) 4).2 with
     | false => rfl
     | true => exact absurd ⟨h0, e⟩ h4)
  ·exact .inl (List.eq_nil_of_length_eq_zero (by omega))
 refine ⟨h1, ?_⟩
 rcases h1 with h1 | h1
 ·rw [h1]; exact Nat.zero_le _
 ·have hb := qcB hl 4
  have hs := sz_all ((itU (u.pend ++ [c]) 4).2.getD 0 0).toNat (by have := qak hb (by decide) 0; omega)
  unfold qbn at h1
  split at h1
  ·rename_i h0; omega
  ·split at h1
   ·cases h1
   ·rename_i h0
    have hs' : szI (itU (u.pend ++ [c]) 4).2 ≤ 4 := hs
    omega
theorem qjF {l : List Int} (h : l.length ≤ 3) : (mkU l).pend = l := by
 unfold mkU US.pend
 simp only [Int.toNat_natCast]
 match l, h with
 | [], _ => rfl
 | [a], _ => rfl
 | [a, b], _ => rfl
 | [a, b, c], _ => rfl
theorem qmx {u : US} (h : u.ok) {c : Int} (hc : 0 ≤ c ∧ c ≤ 255) : uR (qcs u c).1 := by
 obtain ⟨h1, h2⟩ := qmw h hc
 show uR (mkU ((itU (u.pend ++ [c]) 4).2.take 3))
 rw [List.take_of_length_le h2]
 generalize (itU (u.pend ++ [c]) 4).2 = r at h1 h2
 have hg : ∀ i, r.length ≤ i → r.getD i 0 = 0 := fun i hi => by rw [List.getD, List.getElem?_eq_none hi]; rfl
 refine ⟨⟨Int.natCast_nonneg _, by show ((r.length : Nat) : Int) ≤ 3; omega⟩, fun e => hg 0 ?_, fun e => hg 1 ?_, fun e => hg 2 ?_, ?_⟩
 ·have e : ((r.length : Nat) : Int) ≤ 0 := e; omega
 ·have e : ((r.length : Nat) : Int) ≤ 1 := e; omega
 ·have e : ((r.length : Nat) : Int) ≤ 2 := e; omega
 ·rw [qjF h2]
  rcases h1 with rfl | h1
  ·exact .inl rfl
  ·exact .inr h1
def lowM (c : Int) : Prop := 32 ≤ c ∧ c < 48
def wideM (c : Int) : Prop := lowM c ∨ (60 ≤ c ∧ c ≤ 63)
def allB (f : Int → Prop) (s : ByteArray) : Prop := ∀ i : Nat, i < s.size → f (bt s (i : Int))
theorem qgU (f : Int → Prop) : allB f ByteArray.empty := fun i hi => by have : i < 0 := hi; omega
theorem qkI {c : Int} (hc : 0 ≤ c ∧ c ≤ 255) : (qq [c]).size = 1 ∧ bt (qq [c]) 0 = c := by
 refine ⟨rfl, ?_⟩
 have : ∀ k : Nat, k < 256 → bt (qq [(k : Int)]) 0 = (k : Int) := by decide +kernel
 have := this c.toNat (by omega)
 rwa [show ((c.toNat : Nat) : Int) = c by omega] at this
theorem qf3 {f : Int → Prop} {s : ByteArray} (h : allB f s) {c : Int} (hc : 0 ≤ c ∧ c ≤ 255) (hf : f c) : allB f (s ++ qq [c]) := fun i hi => by
 have hb := qkI hc
 rw [ByteArray.size_append, hb.1] at hi
 unfold bt
 rw [dif_pos (show (i : Int).toNat < (s ++ qq [c]).size by rw [ByteArray.size_append, hb.1]; omega)]
 simp only [Int.toNat_natCast]
 by_cases h2 : i < s.size
 ·have := h i h2
  unfold bt at this
  rw [dif_pos (show (i : Int).toNat < s.size by omega)] at this
  simp only [Int.toNat_natCast] at this
  rw [ByteArray.getElem_append_left h2]; exact this
 ·have e : i = s.size := by omega
  subst e
  rw [ByteArray.getElem_append_right (Nat.le_refl _)]
  have h3 := hb.2
  unfold bt at h3
  rw [dif_pos (show (0 : Int).toNat < (qq [c]).size by rw [hb.1]; decide)] at h3
  simp only [Nat.sub_self]
  have h4 : (((qq [c])[0]'(by rw [hb.1]; decide)).toNat : Int) = c := h3
  rw [h4]; exact hf
structure PRight (p : PS) : Prop where
 st : 0 ≤ p.state ∧ p.state ≤ 7
 wi : p.state ≠ 7 → p.within = 0
 wc : p.state = 7 → p.within = 5 ∨ p.within = 6
 u : p.state ≠ 0 → p.utf = u0
 u' : uR p.utf
 m : p.state ≠ 2 → p.state ≠ 3 → p.state ≠ 4 → p.marks = ByteArray.empty
 n : p.state ≠ 3 → p.state ≠ 4 → p.params = []
 t : p.state ≤ 4 → p.text = ByteArray.empty
 m2 : p.state = 2 → 1 ≤ p.marks.size ∧ allB lowM p.marks
 m3 : p.state = 3 ∨ p.state = 4 → allB wideM p.marks
 t5 : allB (fun c => 32 ≤ c) p.text
theorem qdJ {s : Int} (h : s = 0 ∨ s = 1 ∨ s = 3 ∨ s = 5 ∨ s = 6) : PRight (atP s) := by
 refine ⟨by show 0 ≤ s ∧ s ≤ 7; omega, fun _ => rfl, fun e => ?_, fun _ => rfl, uR0, fun _ _ _ => rfl, fun _ _ => rfl, fun _ => rfl, fun e => ?_, fun _ => qgU _, qgU _⟩
 ·have e : s = 7 := e; omega
 ·have e : s = 2 := e; omega
theorem qmy {p : PS} (h : PRight p) (h0 : p.state = 0) {u : US} (hu : uR u) : PRight { p with utf := u } := { h with u := fun e => absurd h0 e, u' := hu }
theorem qap {c : Prop} [Decidable c] {a b : PS × List Ac} (h1 : c → PRight a.1) (h2 : ¬ c → PRight b.1) : PRight (if c then a else b).1 := by
 split
 ·exact h1 ‹_›
 ·exact h2 ‹_›
theorem qmz {p : PS} (h : PRight p) (hl : p.lim) (h0 : p.state = 0) {c : Int} (hc : 0 ≤ c ∧ c ≤ 255) : PRight (qK p c).1 := by
 unfold qK
 refine qap (fun _ => ?_) fun _ => qmy h h0 (qmx hl.u hc)
 refine qap (fun _ => qdJ (.inr (.inl rfl))) fun _ => ?_
 exact qap (fun _ => qmy h h0 uR0) fun _ => qmy h h0 (qmx qiz hc)
theorem qmA {p : PS} (h : PRight p) (h5 : p.state = 5 ∨ p.state = 6) {c : Int} (hc : 0 ≤ c ∧ c ≤ 255) : PRight (qJ p c).1 := by
 unfold qJ
 refine qap (fun _ => ?_) fun _ => ?_
 ·exact ⟨(by show (0 : Int) ≤ 7 ∧ (7 : Int) ≤ 7; decide), fun e => absurd rfl e, fun _ => h5, fun _ => h.u (by omega), h.u', fun _ _ _ => h.m (by omega) (by omega) (by omega), fun _ _ => h.n (by omega) (by omega), fun e => absurd e (by show ¬ (7 : Int) ≤ 4; decide), fun e => absurd e (by show ¬ (7 : Int) = 2; decide), fun e => absurd e (by show ¬ ((7 : Int) = 3 ∨ (7 : Int) = 4); decide), h.t5⟩
 refine qap (fun _ => qdJ (.inl rfl)) fun _ => ?_
 refine qap (fun _ => qdJ (.inl rfl)) fun _ => ?_
 refine qap (fun hx => ?_) fun _ => h
 exact { h with t := fun e => absurd e (by show ¬ p.state ≤ 4; omega), t5 := qf3 h.t5 hc hx.1 }
theorem qmB {p : PS} (h : PRight p) (h1 : p.state = 1 ∨ p.state = 2) {c : Int} (hc : 32 ≤ c ∧ c ≤ 255) : PRight (qt p c).1 := by
 unfold qt
 have hall : allB lowM p.marks := by
  rcases h1 with e | e
  ·rw [h.m (by omega) (by omega) (by omega)]; exact qgU _
  ·exact (h.m2 e).2
 have h2 : p.state = 2 → 1 ≤ p.marks.size := fun e => (h.m2 e).1
 refine qap (fun h48 => ?_) fun _ => ?_
 ·show PRight (if _ then _ else _)
  split
  ·exact ⟨(by show (0 : Int) ≤ 2 ∧ (2 : Int) ≤ 7; decide), fun _ => h.wi (by omega), fun e => absurd e (by show ¬ (2 : Int) = 7; decide), fun _ => h.u (by omega), h.u', fun e => absurd rfl e, fun _ _ => h.n (by omega) (by omega), fun _ => h.t (by omega), fun _ => ⟨by show 1 ≤ (p.marks ++ qq [c]).size; rw [ByteArray.size_append, qax]; omega, qf3 hall ⟨by omega, hc.2⟩ ⟨hc.1, h48⟩⟩, fun e => absurd e (by show ¬ ((2 : Int) = 3 ∨ (2 : Int) = 4); decide), h.t5⟩
  ·rename_i hsz
   exact ⟨(by show (0 : Int) ≤ 2 ∧ (2 : Int) ≤ 7; decide), fun _ => h.wi (by omega), fun e => absurd e (by show ¬ (2 : Int) = 7; decide), fun _ => h.u (by omega), h.u', fun e => absurd rfl e, fun _ _ => h.n (by omega) (by omega), fun _ => h.t (by omega), fun _ => ⟨by show 1 ≤ p.marks.size; omega, hall⟩, fun e => absurd e (by show ¬ ((2 : Int) = 3 ∨ (2 : Int) = 4); decide), h.t5⟩
 refine qap (fun _ => qdJ (.inr (.inr (.inl rfl)))) fun _ => ?_
 refine qap (fun _ => qdJ (.inr (.inr (.inr (.inl rfl))))) fun _ => ?_
 refine qap (fun _ => qdJ (.inr (.inr (.inr (.inr rfl))))) fun _ => ?_
 exact qdJ (.inl rfl)
theorem pr_csi {p : PS} (h : PRight p) (h3 : p.state = 3 ∨ p.state = 4) {c : Int} (hc : 32 ≤ c ∧ c ≤ 255) : PRight (qb8 p c).1 := by
 have hp : ∀ l, PRight { p with params := l } := fun l => { h with n := fun e e' => absurd h3 (by show ¬ (p.state = 3 ∨ p.state = 4); exact fun h => h.elim e e') }
 unfold qb8
 refine qap (fun _ => hp _) fun hd => ?_
 refine qap (fun _ => ?_) fun hs => ?_
 ·show PRight (if _ then _ else _)
  split <;> exact hp _
 refine qap (fun _ => qap (fun _ => qdJ (.inl rfl)) fun _ => qdJ (.inl rfl)) fun h64 => ?_
 refine qap (fun _ => ?_) fun hm => ?_
 ·exact ⟨(by show (0 : Int) ≤ 4 ∧ (4 : Int) ≤ 7; decide), fun _ => h.wi (by omega), fun e => absurd e (by show ¬ (4 : Int) = 7; decide), fun _ => h.u (by omega), h.u', fun _ _ e => absurd rfl e, fun _ e => absurd rfl e, fun _ => h.t (by omega), fun e => absurd e (by show ¬ (4 : Int) = 2; decide), fun _ => h.m3 h3, h.t5⟩
 ·exact { h with m := fun e e' e'' => absurd h3 (by show ¬ (p.state = 3 ∨ p.state = 4); exact fun h => h.elim e' e''), m2 := fun e => (by have e : p.state = 2 := e; omega), m3 := fun _ => qf3 (h.m3 h3) ⟨by omega, hc.2⟩ (by unfold wideM lowM; omega) }
theorem qjG {p : PS} (h : PRight p) (hl : p.lim) (h7 : p.state ≠ 7) {c : Int} (hc : 0 ≤ c ∧ c ≤ 255) : PRight (qan p c).1 := by
 have hst := h.st
 unfold qan
 refine qap (fun h0 => qmz h hl h0 hc) fun h0 => ?_
 refine qap (fun h5 => qmA h (by omega) hc) fun h5 => ?_
 refine qap (fun _ => qdJ (.inl rfl)) fun _ => ?_
 refine qap (fun _ => qdJ (.inr (.inl rfl))) fun _ => ?_
 refine qap (fun _ => h) fun h32 => ?_
 refine qap (fun _ => h) fun _ => ?_
 refine qap (fun h3 => pr_csi h h3 ⟨by omega, hc.2⟩) fun h3 => ?_
 exact qmB h (by omega) ⟨by omega, hc.2⟩
theorem pr_feed {p : PS} (h : PRight p) (hl : p.lim) {c : Int} (hc : 0 ≤ c ∧ c ≤ 255) : PRight (qaR p c).1 := by
 unfold qaR
 refine qap (fun h7 => ?_) fun h7 => qjG h hl h7 hc
 exact qap (fun _ => qdJ (.inl rfl)) fun _ => qjG (qdJ (.inr (.inl rfl))) (qb3 1) (by show (1 : Int) ≠ 7; decide) hc
theorem qi1 {T : TS} (h : PRight T.parser) (hl : T.parser.lim) (s : ByteArray) : ∀ k, PRight (qcF T s k).parser
 | 0 => h
 | k + 1 => by rw [qcF, qmb]; exact pr_feed (qi1 h hl s k) (qd0 hl s k) (qci s _)
theorem pr_do {T : TS} (h : PRight T.parser) (hl : T.parser.lim) (x : Stp) : PRight (doT T x).parser := by
 unfold doT
 split
 ·exact qi1 h hl _ _
 ·rw [qdD]; exact h
def qkJ (c : Cur) : List Int := qch c.x.toNat ++ (qch c.y.toNat ++ (qch (qbp [c.late]) ++ qch (qe3 c.sty)))
def qi2 (W H : Int) (s : RS) : Cur × Bool × RS :=
  (⟨(qO W s).1, (qO H (qO W s).2).1, (qO 2 (qO H (qO W s).2).2).1 == 1, (qfr (qO 2 (qO H (qO W s).2).2).2).1⟩,
   (qfr (qO 2 (qO H (qO W s).2).2).2).2.1 && (!((qO 2 (qO H (qO W s).2).2).1 == 1) || (qO W s).1 == W - 1), (qfr (qO 2 (qO H (qO W s).2).2).2).2.2)
theorem qf4 {W H : Int} {s s1 s2 s3 s4 : RS} {x y l : Int} {t : Sty} {ok : Bool} (h1 : qO W s = (x, s1)) (h2 : qO H s1 = (y, s2)) (h3 : qO 2 s2 = (l, s3)) (h4 : qfr s3 = (t, ok, s4)) :
    qi2 W H s = (⟨x, y, l == 1, t⟩, ok && (!(l == 1) || x == W - 1), s4) := by
  unfold qi2
  rw [h1]
  dsimp only
  rw [h2]
  dsimp only
  rw [h3]
  dsimp only
  rw [h4]
structure CurOk (W H : Int) (c : Cur) : Prop where
  x : 0 ≤ c.x ∧ c.x < W
  y : 0 ≤ c.y ∧ c.y < H
  l : c.late = true → c.x = W - 1
  s : qA c.sty = true
theorem qf5 {W H : Int} {s : RS} (hs : rsB s) : rsB (qi2 W H s).2.2 := qhY (qB (qB (qB hs)))
theorem qf6 {W H : Int} {s s' : RS} {c : Cur} (hs : rsB s) (hW : 0 < W) (hH : 0 < H) (h : qi2 W H s = (c, true, s')) : ∃ ys zs, s = some ys ∧ s' = some zs ∧ ys = qkJ c ++ zs ∧ CurOk W H c := by
  obtain ⟨x, s1, h1⟩ : ∃ n s1, qO W s = (n, s1) := ⟨_, _, rfl⟩
  obtain ⟨y, s2, h2⟩ : ∃ n s', qO H s1 = (n, s') := ⟨_, _, rfl⟩
  obtain ⟨l, s3, h3⟩ : ∃ n s', qO 2 s2 = (n, s') := ⟨_, _, rfl⟩
  obtain ⟨t, ok, s4, h4⟩ : ∃ n o s', qfr s3 = (n, o, s') := ⟨_, _, _, rfl⟩
  rw [qf4 h1 h2 h3 h4] at h
  simp only [Prod.mk.injEq, Bool.and_eq_true, Bool.or_eq_true, Bool.not_eq_true'] at h
  obtain ⟨rfl, ⟨rfl, hl⟩, rfl⟩ := h
  have b1 := qB (lim := W) hs; rw [h1] at b1
  have b2 := qB (lim := H) b1; rw [h2] at b2
  have b3 := qB (lim := 2) b2; rw [h3] at b3
  obtain ⟨y4, z4, e4, e4', e4'', hst⟩ := qhX b3 h4
  subst e4 e4'
  obtain ⟨y3, e3, e3', p3, p3', p3''⟩ := qS b2 h3
  subst e3
  obtain ⟨y2, e2, e2', p2, p2', p2''⟩ := qS b1 h2
  subst e2
  obtain ⟨y1, e1, e1', p1, p1', p1''⟩ := qS hs h1
  have q3 := p3'' (by decide)
  refine ⟨y1, z4, e1, rfl, ?_, ⟨⟨p1, p1'' hW⟩, ⟨p2, p2'' hH⟩, fun hh => ?_, hst⟩⟩
  · unfold qkJ
    have : qbp [l == 1] = l.toNat := by
      have : l = 0 ∨ l = 1 := by omega
      rcases this with rfl | rfl <;> rfl
    dsimp only
    rw [this, e1', e2', e3', e4'']
    simp only [List.append_assoc]
  · dsimp only at hh
    rcases hl with hl | hl
    · rw [hl] at hh; cases hh
    · exact beq_iff_eq.1 hl
def qiK (c : Int) : Bool := decide (32 ≤ c) && decide (c < 48)
def qby (c : Int) : Bool := qiK c || (decide (60 ≤ c) && decide (c ≤ 63))
def zb (s : ByteArray) : Bool := s.toList == ByteArray.empty.toList
def utB (u : US) : Bool := decide (0 ≤ u.n) && decide (u.n ≤ 3) && ([u.b0, u.b1, u.b2].drop u.n.toNat).all (· == 0) && (u.n == 0 || !qbn u.pend)
def qcu (u : US) : Bool := u.b0 == 0 && u.b1 == 0 && u.b2 == 0 && u.n == 0
def qbq (p : PS) : Bool := zb p.marks && p.params.length == 0
def qaU (lo : Nat) (f : Int → Bool) (m : ByteArray) : Bool := decide (lo ≤ m.size) && decide (m.size ≤ 2) && (List.range m.size).all fun i => f (bt m (i : Int))
def qem (l : List Int) : Bool := l.all (fun n => decide (0 ≤ n) && decide (n ≤ 9999)) && decide (l.length ≤ 8)
def qe6 (x : ByteArray) : Bool := ((List.range x.size).all fun i => decide (32 ≤ bt x (i : Int))) && decide (x.size ≤ 40)
def qs (p : PS) : Bool :=
  if (p.state ≠ 7 ∧ p.within ≠ 0) ∨ (p.state ≠ 0 ∧ qcu p.utf = false) then false
  else if p.state = 0 then utB p.utf && qbq p && zb p.text
  else if p.state = 1 then qbq p && zb p.text
  else if p.state = 2 then qaU 1 qiK p.marks && p.params.length == 0 && zb p.text
  else if p.state = 3 ∨ p.state = 4 then qaU 0 qby p.marks && qem p.params && zb p.text
  else if p.state = 7 then (if p.within ≠ 5 ∧ p.within ≠ 6 then false else qbq p && qe6 p.text)
  else if p.state = 5 ∨ p.state = 6 then qbq p && qe6 p.text
  else false
def qkK (p : PS) : List Int := qch p.state.toNat ++ (qch p.within.toNat ++ (qhV (qq p.utf.pend) ++ (qhV p.marks ++ (qch p.params.length ++ (p.params.flatMap (fun n => qch n.toNat) ++ qhV p.text)))))
def qen : Nat → List Int → RS → List Int × RS
  | 0, l, s => (l, s)
  | k + 1, l, s => qen k (l ++ [(qO 10000 s).1]) (qO 10000 s).2
theorem qg1 : ∀ (k : Nat) {l : List Int} {s : RS}, rsB s → rsB (qen k l s).2
  | 0, _, _, h => h
  | k + 1, l, s, h => qg1 k (qB h)
theorem qg2 : ∀ (k : Nat) {l L : List Int} {s : RS} {zs : List Int}, rsB s → qen k l s = (L, some zs) → ∃ M ys, L = l ++ M ∧ s = some ys ∧ ys = M.flatMap (fun n => qch n.toNat) ++ zs ∧ M.length = k ∧ ∀ n ∈ M, 0 ≤ n ∧ n ≤ 9999
  | 0, l, L, s, zs, hs, h => by
    simp only [qen, Prod.mk.injEq] at h
    obtain ⟨rfl, rfl⟩ := h
    exact ⟨[], zs, (List.append_nil _).symm, rfl, rfl, rfl, fun n hn => by cases hn⟩
  | k + 1, l, L, s, zs, hs, h => by
    obtain ⟨n, s1, hN⟩ : ∃ a b, qO 10000 s = (a, b) := ⟨_, _, rfl⟩
    have hb := qB (lim := 10000) hs
    rw [qen, hN] at h
    rw [hN] at hb
    dsimp only at h hb
    obtain ⟨M, ys, q1, rfl, q3, q4, q5⟩ := qg2 k hb h
    obtain ⟨us, e1, e2, e3, e4, e5⟩ := qS hs hN
    have e6 := e5 (by decide)
    refine ⟨n :: M, us, by rw [q1]; simp, e1, by rw [e2, q3]; simp, by simp [q4], fun x hx => ?_⟩
    rcases List.mem_cons.1 hx with rfl | hx
    · exact ⟨e3, by omega⟩
    · exact q5 x hx
def qi3 (s : RS) (f : Bool) : PS × RS × Bool :=
  let st := qO 8 s
  let wi := qO 8 st.2
  let u := qaW 3 wi.2
  let m := qaW 2 u.2
  let n := qO 9 m.2
  let q := qen n.1.toNat [] n.2
  let x := qaW 40 q.2
  (⟨st.1, mkU (qaM u.1), m.1, q.1, x.1, wi.1⟩, x.2, f && qs ⟨st.1, mkU (qaM u.1), m.1, q.1, x.1, wi.1⟩)
theorem qgV {s s1 s2 s3 s4 s5 s6 s7 : RS} {f : Bool} {st wi n : Int} {u m x : ByteArray} {q : List Int} (h1 : qO 8 s = (st, s1)) (h2 : qO 8 s1 = (wi, s2)) (h3 : qaW 3 s2 = (u, s3)) (h4 : qaW 2 s3 = (m, s4)) (h5 : qO 9 s4 = (n, s5)) (h6 : qen n.toNat [] s5 = (q, s6)) (h7 : qaW 40 s6 = (x, s7)) :
    qi3 s f = (⟨st, mkU (qaM u), m, q, x, wi⟩, s7, f && qs ⟨st, mkU (qaM u), m, q, x, wi⟩) := by
  unfold qi3
  rw [h1]
  dsimp only
  rw [h2]
  dsimp only
  rw [h3]
  dsimp only
  rw [h4]
  dsimp only
  rw [h5]
  dsimp only
  rw [h6]
  dsimp only
  rw [h7]
structure ParsOk (p : PS) : Prop where
  st : 0 ≤ p.state ∧ p.state < 8
  wi : 0 ≤ p.within ∧ p.within < 8
  u : p.utf.ok
  un : (p.utf.n).toNat = p.utf.pend.length ∧ p.utf.pend.length ≤ 3
  m : p.marks.size ≤ 2
  n : p.params.length ≤ 8
  b : ∀ x ∈ p.params, 0 ≤ x ∧ x ≤ 9999
  t : p.text.size ≤ 40
  r : qs p = true
theorem qkL {s : RS} {f : Bool} {p : PS} {zs : List Int} (hs : rsB s) (h : qi3 s f = (p, some zs, true)) : ∃ ys, s = some ys ∧ ys = qkK p ++ zs ∧ f = true ∧ ParsOk p := by
  obtain ⟨st, s1, h1⟩ : ∃ n s1, qO 8 s = (n, s1) := ⟨_, _, rfl⟩
  obtain ⟨wi, s2, h2⟩ : ∃ n s', qO 8 s1 = (n, s') := ⟨_, _, rfl⟩
  obtain ⟨u, s3, h3⟩ : ∃ n s', qaW 3 s2 = (n, s') := ⟨_, _, rfl⟩
  obtain ⟨m, s4, h4⟩ : ∃ n s', qaW 2 s3 = (n, s') := ⟨_, _, rfl⟩
  obtain ⟨n, s5, h5⟩ : ∃ n s', qO 9 s4 = (n, s') := ⟨_, _, rfl⟩
  obtain ⟨q, s6, h6⟩ : ∃ q s', qen n.toNat [] s5 = (q, s') := ⟨_, _, rfl⟩
  obtain ⟨x, s7, h7⟩ : ∃ n s', qaW 40 s6 = (n, s') := ⟨_, _, rfl⟩
  rw [qgV h1 h2 h3 h4 h5 h6 h7] at h
  simp only [Prod.mk.injEq, Bool.and_eq_true] at h
  obtain ⟨rfl, rfl, rfl, hr⟩ := h
  have b1 := qB (lim := 8) hs; rw [h1] at b1
  have b2 := qB (lim := 8) b1; rw [h2] at b2
  have b3 := qd1 (most := 3) b2; rw [h3] at b3
  have b4 := qd1 (most := 2) b3; rw [h4] at b4
  have b5 := qB (lim := 9) b4; rw [h5] at b5
  have b6 := qg1 n.toNat (l := []) b5; rw [h6] at b6
  obtain ⟨y7, e7, e7', p7⟩ := qce b6 h7 (by decide)
  subst e7
  obtain ⟨M, y6, e6, e6', e6'', p6, p6'⟩ := qg2 _ b5 h6
  rw [List.nil_append] at e6
  subst e6 e6'
  obtain ⟨y5, e5, e5', p5, _, p5'⟩ := qS b4 h5
  subst e5
  obtain ⟨y4, e4, e4', p4⟩ := qce b3 h4 (by decide)
  subst e4
  obtain ⟨y3, e3, e3', p3⟩ := qce b2 h3 (by decide)
  subst e3
  obtain ⟨y2, e2, e2', p2, _, p2'⟩ := qS b1 h2
  subst e2
  obtain ⟨y1, e1, e1', p1, _, p1'⟩ := qS hs h1
  have hl3 : (qaM u).length ≤ 3 := by rw [qgT]; omega
  have hpe := qjF hl3
  have hub : qq (qaM u) = u := by
    have : (qq (qaM u)).data.toList = u.data.toList := by
      rw [qcM]
      unfold qaM
      rw [List.map_map]
      refine (List.map_congr_left fun b _ => ?_).trans (List.map_id _)
      show UInt8.ofNat ((b.toNat : Int).toNat) = b
      rw [Int.toNat_natCast]; exact UInt8.ofNat_toNat
    cases hA : qq (qaM u) with
    | mk a =>
      rw [hA] at this
      cases u with
      | mk b => exact congrArg ByteArray.mk (Array.toList_inj.1 this)
  have q5 := p5' (by decide)
  refine ⟨y1, e1, ?_, rfl, ⟨⟨p1, p1' (by decide)⟩, ⟨p2, p2' (by decide)⟩, qlU (qhW u) hl3, ?_, by dsimp only; omega, by dsimp only; omega, p6', by dsimp only; omega, hr⟩⟩
  · unfold qkK
    dsimp only
    rw [hpe, hub, e1', e2', e3', e4', e5', e6'', e7', ← p6]
    simp only [List.append_assoc]
  · dsimp only
    rw [hpe]
    exact ⟨by show (((qaM u).length : Nat) : Int).toNat = _; omega, hl3⟩
def qi4 (T : TS) : List Bool := [T.wrap, T.origin, T.insert, T.hidden, T.alt, T.draw0, T.draw1, T.shift]
def qiL (T : TS) : List Int := qch T.grid.w.toNat ++ (qch T.grid.h.toNat ++ (qch T.top.toNat ++ (qch T.bot.toNat ++ (qch (qbp (qi4 T)) ++ (qch (qao T.tabs 60) ++ (qkJ T.cursor ++ (qkJ T.saved ++ (qkJ T.away ++
  (T.grid.lines.flatMap qaS ++ (T.other.lines.flatMap qaS ++ (qch T.back.length ++ (qkG T.back ++ (qhV T.title ++ (qhV T.reply ++ qkK T.parser))))))))))))))
def qeo (tb k : Nat) (i : Nat) : Bool := if i < k then qdG tb i else qgz 7 i
def qgW (w h top bot n tb : Int) : TS := { qa7 zeroT w h with top := top, bot := bot, wrap := qdG n.toNat 0, origin := qdG n.toNat 1, insert := qdG n.toNat 2, hidden := qdG n.toNat 3, alt := qdG n.toNat 4, draw0 := qdG n.toNat 5, draw1 := qdG n.toNat 6, shift := qdG n.toNat 7, tabs := qeo tb.toNat 60 }
def qkM (T : TS) (W H : Int) (s : RS) : Option TS :=
  let a := qi2 W H s
  let b := qi2 W H a.2.2
  let c := qi2 W H b.2.2
  let d := qaa W H.toNat [] c.2.2 ((a.2.1 && b.2.1) && c.2.1)
  let e := qaa W H.toNat [] d.2.1 d.2.2
  let k := qft e.2.1 e.2.2
  let t := qaW 40 k.2.1
  let r := qaW 400 t.2
  let p := qi3 r.2 k.2.2
  if p.2.2 = true ∧ p.2.1 = some [] then some { T with cursor := a.1, saved := b.1, away := c.1, grid := ⟨W, H, d.1⟩, other := ⟨W, H, e.1⟩, back := k.1, title := t.1, reply := r.1, parser := p.1 } else none
def qgX (s : RS) : Option TS × RS :=
  let w := qO 61 s
  let h := qO 61 w.2
  let a := qO (h.1 + 1) h.2
  let b := qO (h.1 + 1) a.2
  let n := qO 256 b.2
  let t := qO 1152921504606846976 n.2
  if t.2.isSome = false ∨ w.1 < 1 ∨ h.1 < 1 ∨ b.1 ≤ a.1 then (none, t.2) else (some (qgW w.1 h.1 a.1 b.1 n.1 t.1), t.2)
theorem qd3 {s s1 s2 s3 s4 s5 s6 : RS} {w v a b n t : Int} (h1 : qO 61 s = (w, s1)) (h2 : qO 61 s1 = (v, s2)) (h3 : qO (v + 1) s2 = (a, s3)) (h4 : qO (v + 1) s3 = (b, s4)) (h5 : qO 256 s4 = (n, s5)) (h6 : qO 1152921504606846976 s5 = (t, s6)) :
    qgX s = if s6.isSome = false ∨ w < 1 ∨ v < 1 ∨ b ≤ a then (none, s6) else (some (qgW w v a b n t), s6) := by
  unfold qgX
  rw [h1]
  dsimp only
  rw [h2]
  dsimp only
  rw [h3]
  dsimp only
  rw [h4]
  dsimp only
  rw [h5]
  dsimp only
  rw [h6]
def decT (s : RS) : Option TS := match qgX s with
  | (none, _) => none
  | (some T, s1) => qkM T T.grid.w T.grid.h s1
structure DecOk (T : TS) : Prop where
  w : 1 ≤ T.grid.w ∧ T.grid.w ≤ 60
  h : 1 ≤ T.grid.h ∧ T.grid.h ≤ 60
  o : T.other.w = T.grid.w ∧ T.other.h = T.grid.h
  t : 0 ≤ T.top ∧ T.top < T.bot ∧ T.bot ≤ T.grid.h
  c : CurOk T.grid.w T.grid.h T.cursor
  s : CurOk T.grid.w T.grid.h T.saved
  a : CurOk T.grid.w T.grid.h T.away
  g : T.grid.lines.length = T.grid.h.toNat ∧ ∀ l ∈ T.grid.lines, (l.length : Int) = T.grid.w ∧ qbo l = true ∧ ∀ c ∈ l, cOk c
  g2 : T.other.lines.length = T.grid.h.toNat ∧ ∀ l ∈ T.other.lines, (l.length : Int) = T.grid.w ∧ qbo l = true ∧ ∀ c ∈ l, cOk c
  k : T.back.length ≤ 20 ∧ ∀ l ∈ T.back, 0 < l.length ∧ l.length ≤ 60 ∧ qbo l = true ∧ ∀ c ∈ l, cOk c
  ti : T.title.size ≤ 40
  r : T.reply.size ≤ 400
  p : ParsOk T.parser
theorem qkN {T T' : TS} {W H : Int} {s : RS} (hs : rsB s) (hW : 1 ≤ W ∧ W ≤ 60) (hH : 1 ≤ H ∧ H ≤ 60) (ht : 0 ≤ T.top ∧ T.top < T.bot ∧ T.bot ≤ H) (h : qkM T W H s = some T') : ∃ ys, s = some ys ∧
    ys = qkJ T'.cursor ++ (qkJ T'.saved ++ (qkJ T'.away ++ (T'.grid.lines.flatMap qaS ++ (T'.other.lines.flatMap qaS ++ (qch T'.back.length ++ (qkG T'.back ++ (qhV T'.title ++ (qhV T'.reply ++ qkK T'.parser)))))))) ∧ DecOk T' ∧ T'.grid.w = W ∧ T'.grid.h = H ∧ T'.top = T.top ∧ T'.bot = T.bot ∧ qi4 T' = qi4 T ∧ T'.tabs = T.tabs := by
  obtain ⟨a, ha, s1, h1⟩ : ∃ a o s1, qi2 W H s = (a, o, s1) := ⟨_, _, _, rfl⟩
  obtain ⟨b, hb, s2, h2⟩ : ∃ a o s', qi2 W H s1 = (a, o, s') := ⟨_, _, _, rfl⟩
  obtain ⟨c, hc, s3, h3⟩ : ∃ a o s', qi2 W H s2 = (a, o, s') := ⟨_, _, _, rfl⟩
  obtain ⟨d, s4, f4, h4⟩ : ∃ d s' f, qaa W H.toNat [] s3 ((ha && hb) && hc) = (d, s', f) := ⟨_, _, _, rfl⟩
  obtain ⟨e, s5, f5, h5⟩ : ∃ d s' f, qaa W H.toNat [] s4 f4 = (d, s', f) := ⟨_, _, _, rfl⟩
  obtain ⟨k, s6, f6, h6⟩ : ∃ d s' f, qft s5 f5 = (d, s', f) := ⟨_, _, _, rfl⟩
  obtain ⟨t, s7, h7⟩ : ∃ d s', qaW 40 s6 = (d, s') := ⟨_, _, rfl⟩
  obtain ⟨r, s8, h8⟩ : ∃ d s', qaW 400 s7 = (d, s') := ⟨_, _, rfl⟩
  obtain ⟨p, s9, f9, h9⟩ : ∃ d s' f, qi3 s8 f6 = (d, s', f) := ⟨_, _, _, rfl⟩
  unfold qkM at h
  rw [h1] at h
  dsimp only at h
  rw [h2] at h
  dsimp only at h
  rw [h3] at h
  dsimp only at h
  rw [h4] at h
  dsimp only at h
  rw [h5] at h
  dsimp only at h
  rw [h6] at h
  dsimp only at h
  rw [h7] at h
  dsimp only at h
  rw [h8] at h
  dsimp only at h
  rw [h9] at h
  dsimp only at h
  split at h
  · rename_i hz
    obtain ⟨rfl, rfl⟩ := hz
    obtain rfl := Option.some.inj h
    have b1 := qf5 (W := W) (H := H) hs; rw [h1] at b1
    have b2 := qf5 (W := W) (H := H) b1; rw [h2] at b2
    have b3 := qf5 (W := W) (H := H) b2; rw [h3] at b3
    have b4 := qba (W := W) H.toNat (out := []) (f := (ha && hb) && hc) b3; rw [h4] at b4
    have b5 := qba (W := W) H.toNat (out := []) (f := f4) b4; rw [h5] at b5
    have b6 : rsB s6 := by have := qfZ (qO 21 s5).1.toNat (out := []) (f := f5) (qB (lim := 21) b5); have e : qe5 (qO 21 s5).1.toNat [] (qO 21 s5).2 f5 = (k, s6, f6) := h6; rw [e] at this; exact this
    have b7 := qd1 (most := 40) b6; rw [h7] at b7
    have b8 := qd1 (most := 400) b7; rw [h8] at b8
    obtain ⟨y9, e9, e9', rfl, hp⟩ := qkL b8 h9
    subst e9
    obtain ⟨y8, e8, e8', hr⟩ := qce b7 h8 (by decide)
    subst e8
    obtain ⟨y7, e7, e7', hti⟩ := qce b6 h7 (by decide)
    subst e7
    obtain ⟨y6, z6, f6', e6, e6', e6'', hk1, hk2⟩ := qkH b5 h6 rfl
    subst f6' e6
    obtain rfl := Option.some.inj e6'
    obtain ⟨M2, y5, z5, f5', q2, e5, e5', e5'', hg2, hg2'⟩ := qcn (by omega) _ b4 (.inr (by omega)) h5
    rw [List.nil_append] at q2
    subst q2 f5' e5
    obtain rfl := Option.some.inj e5'
    obtain ⟨M1, y4, z4, f4', q1, e4, e4', e4'', hg1, hg1'⟩ := qcn (by omega) _ b3 (.inr (by omega)) h4
    rw [List.nil_append] at q1
    subst q1 e4
    obtain rfl := Option.some.inj e4'
    rw [Bool.and_eq_true, Bool.and_eq_true] at f4'
    obtain ⟨⟨rfl, rfl⟩, rfl⟩ := f4'
    obtain ⟨y3, z3, e3, e3', e3'', hc3⟩ := qf6 b2 (by omega) (by omega) h3
    subst e3
    obtain rfl := Option.some.inj e3'
    obtain ⟨y2, z2, e2, e2', e2'', hc2⟩ := qf6 b1 (by omega) (by omega) h2
    subst e2
    obtain rfl := Option.some.inj e2'
    obtain ⟨y1, z1, e1, e1', e1'', hc1⟩ := qf6 hs (by omega) (by omega) h1
    obtain rfl := Option.some.inj e1'
    refine ⟨y1, e1, ?_, ⟨hW, hH, ⟨rfl, rfl⟩, ht, hc1, hc2, hc3, ⟨hg1, hg1'⟩, ⟨hg2, hg2'⟩, ⟨hk1, hk2⟩, by dsimp only; omega, by dsimp only; omega, hp⟩, rfl, rfl, rfl, rfl, rfl, rfl⟩
    dsimp only
    rw [e1'', e2'', e3'', e4'', e5'', e6'', e7', e8', e9', List.append_nil]
  · cases h
theorem qmC {s : RS} {T : TS} (hs : rsB s) (h : decT s = some T) : ∃ ys, s = some ys ∧ ys = qiL T ∧ DecOk T := by
  obtain ⟨w, s1, h1⟩ : ∃ d s', qO 61 s = (d, s') := ⟨_, _, rfl⟩
  obtain ⟨v, s2, h2⟩ : ∃ d s', qO 61 s1 = (d, s') := ⟨_, _, rfl⟩
  obtain ⟨a, s3, h3⟩ : ∃ d s', qO (v + 1) s2 = (d, s') := ⟨_, _, rfl⟩
  obtain ⟨b, s4, h4⟩ : ∃ d s', qO (v + 1) s3 = (d, s') := ⟨_, _, rfl⟩
  obtain ⟨n, s5, h5⟩ : ∃ d s', qO 256 s4 = (d, s') := ⟨_, _, rfl⟩
  obtain ⟨t, s6, h6⟩ : ∃ d s', qO 1152921504606846976 s5 = (d, s') := ⟨_, _, rfl⟩
  unfold decT at h
  rw [qd3 h1 h2 h3 h4 h5 h6] at h
  split at h
  · cases h
  · rename_i T0 s7 e0
    split at e0
    · cases e0
    rename_i hc
    simp only [Prod.mk.injEq, Option.some.injEq] at e0
    obtain ⟨rfl, rfl⟩ := e0
    simp only [not_or] at hc
    obtain ⟨c1, c2, c3, c4⟩ := hc
    have b1 := qB (lim := 61) hs; rw [h1] at b1
    have b2 := qB (lim := 61) b1; rw [h2] at b2
    have b3 := qB (lim := v + 1) b2; rw [h3] at b3
    have b4 := qB (lim := v + 1) b3; rw [h4] at b4
    have b5 := qB (lim := 256) b4; rw [h5] at b5
    have b6 := qB (lim := 1152921504606846976) b5; rw [h6] at b6
    have w1 := qa3 (lim := 61) (s := s); rw [h1] at w1
    have v1 := qa3 (lim := 61) (s := s1); rw [h2] at v1
    have w2 := w1.2.2 (by decide)
    have v2 := v1.2.2 (by decide)
    dsimp only at w1 v1 w2 v2
    have a1 := qa3 (lim := v + 1) (s := s2); rw [h3] at a1
    have bb1 := qa3 (lim := v + 1) (s := s3); rw [h4] at bb1
    have a2 := a1.2.2 (by omega)
    have bb2 := bb1.2.2 (by omega)
    dsimp only at a1 bb1 a2 bb2
    have hsw : (qgW w v a b n t).grid.w = w := by show qj w = w; unfold qj; omega
    have hsv : (qgW w v a b n t).grid.h = v := by show qj v = v; unfold qj; omega
    rw [hsw, hsv] at h
    obtain ⟨y6, e6, e6', hd, r1, r2, r3, r4, r5, r6⟩ := qkN b6 (by omega) (by omega) (by show 0 ≤ a ∧ a < b ∧ b ≤ v; omega) h
    subst e6
    obtain ⟨y5, e5, e5', p5, _, p5'⟩ := qS b5 h6
    subst e5
    obtain ⟨y4, e4, e4', p4, _, p4'⟩ := qS b4 h5
    subst e4
    obtain ⟨y3, e3, e3', _⟩ := qS b3 h4
    subst e3
    obtain ⟨y2, e2, e2', _⟩ := qS b2 h3
    subst e2
    obtain ⟨y1, e1, e1', _⟩ := qS b1 h2
    subst e1
    obtain ⟨y0, e0, e0', _⟩ := qS hs h1
    refine ⟨y0, e0, ?_, hd⟩
    have q4 := p4' (by decide)
    have q5 := p5' (by decide)
    have m1 : qbp (qi4 T) = n.toNat := by
      rw [r5]
      have : qbp (qi4 (qgW w v a b n t)) = qao (qdG n.toNat) 8 := qbN fun i hi => by
        have : i = 0 ∨ i = 1 ∨ i = 2 ∨ i = 3 ∨ i = 4 ∨ i = 5 ∨ i = 6 ∨ i = 7 := by have : i < 8 := hi; omega
        rcases this with rfl | rfl | rfl | rfl | rfl | rfl | rfl | rfl <;> rfl
      rw [this, qe2]
      exact Nat.mod_eq_of_lt (by omega)
    have m2 : qao T.tabs 60 = t.toNat := by
      rw [r6]
      have : qao (qgW w v a b n t).tabs 60 = qao (qdG t.toNat) 60 := qbN fun i hi => by show (if i < 60 then _ else _) = _; rw [if_pos hi]
      rw [this, qe2]
      exact Nat.mod_eq_of_lt (by omega)
    unfold qiL
    rw [m1, m2, r1, r2, r3, r4, e0', e1', e2', e3', e4', e5', e6']
    rfl
section
variable {P : Program} {N : Nat} {ops : Array Oper} {Q : Exit → Act → World → Prop} {f : Fr} {k : Nat} {K : Act → World → Prop} {w : World}
def qiM (P : Program) (N : Nat) (ops : Array Oper) (f : Fr) (k : Nat) : Option (FuncId × List Value × Option Tmp) :=
 match qgb N ops f k with
 | some (.call ⟨.value x, args, _⟩, d) => match ev f x with
  | some (.func (.func g) ⟨[]⟩ ⟨[]⟩) => if qdj P g then (evs f args.toList).map fun vs => (g, vs, d) else none
  | _ => none
 | _ => none
theorem e_callT {g : FuncId} {vs : List Value} {R : Ending → World → Prop} (d : Option Tmp) (h : qiM P N ops f k = some (g, vs, d)) (hc : Calls P g vs.toArray w R)
  (hK : ∀ e w', R e w' → ∃ v, e = .returned v ∧ ∀ a', Has N (pushd d v f) a' → K a' w') : ∀ a, Has N f a → wpOp P ops Q k K a w := by
 unfold qiM at h
 split at h
 ·rename_i x args tys d' ho
  split at h
  ·rename_i g' hx
   split at h
   ·rename_i hg
    simp only [Option.map_eq_some_iff, Prod.mk.injEq] at h
    obtain ⟨vs', hv, rfl, rfl, rfl⟩ := h
    intro a ha
    refine qaQ ho ha fun o' hop hd hdk => ?_
    unfold qdj at hg
    cases hf : P.funcs[g']? with
    | none => rw [hf] at hg; cases hg
    | some fn =>
     rw [hf] at hg
     simp only [Bool.and_eq_true, bne_iff_ne] at hg
     have : (execOp a.eval o').run P w = .ok (.enter g' vs'.toArray) w := by
      have e := qbf ha hv
      have e2 := qG ha hx
      have hn : fn.body.isNone = false := by cases hb : fn.body <;> simp_all
      simp [execOp, hop, resolve, e, e2, Deferred.ofValue, invoke, callFunc, hf, hg.1]
      intro h; rw [h] at hn; cases hn
     simp only [Oper.wp, this, Oper.upon]
     rw [hd]
     refine Calls.mono hc fun e w' he => ?_
     obtain ⟨v, rfl, h⟩ := hK e w' he
     exact h _ (ha.pushd hdk v)
   ·cases h
  ·cases h
 ·cases h
theorem yQT {g : FuncId} {vs : List Value} {v : Value} {A : World → Prop} (hc : Calls P g vs.toArray w fun e w' => e = .returned v ∧ A w') (hK : ∀ w', A w' → ∀ a', Has N (pushd (dO ops k) v f) a' → K a' w')
  (h : qiM P N ops f k = some (g, vs, dO ops k) := by kernel_rfl) : ∀ a, Has N f a → wpOp P ops Q k K a w := e_callT _ h hc fun _ w' h => ⟨v, h.1, hK w' h.2⟩
def qeg (s : ByteArray) : List Value := s.data.toList.map fun b => Value.int .u8 b.toNat
theorem qgY (s : ByteArray) : (qeg s).length = s.size := by simp [qeg]
theorem bytV_get (s : ByteArray) {i : Nat} (h : i < s.size) : (qeg s)[i]? = some (.int .u8 (bt s (i : Int))) := by
 unfold qeg bt
 rw [List.getElem?_map, List.getElem?_eq_getElem (by simpa using h)]
 simp only [Option.map_some, Int.toNat_natCast]
 rw [dif_pos h]
 rfl
def byteAt (P : Program) (N : Nat) (ops : Array Oper) (f : Fr) (k : Nat) : Option (ByteArray × Option Tmp) :=
 match qgb N ops f k with
 | some (.convert s t x, d) => match P.underlying s, P.underlying t, ev f x with
  | some .string, some (.slice e), some (.string u) => match P.underlying e with
   | some (.int .u8) => some (u, d)
   | _ => none
  | _, _, _ => none
 | _ => none
theorem qf7 (u : ByteArray) (d : Option Tmp) (h : byteAt P N ops f k = some (u, d))
  (hK : ∀ w' b cap, b = w.heap.size → w'.heap.size = w.heap.size + 1 → Rd w' (some ⟨b, 0, none⟩) (qeg u) → Ch (fun _ => False) w w' → ∀ a', Has N (pushd d (.slice (some ⟨b, 0, none⟩) u.size cap) f) a' → K a' w') : ∀ a, Has N f a → wpOp P ops Q k K a w := by
 intro a ha
 unfold byteAt at h
 split at h
 ·rename_i s t x d' ho
  split at h
  ·rename_i e v hs ht hx
   split at h
   ·rename_i he
    simp only [Option.some.injEq, Prod.mk.injEq] at h
    obtain ⟨rfl, rfl⟩ := h
    refine qaQ ho ha fun o' hop hd hdk => ?_
    have hc := run_bytes_of_string (P := P) w s t e v hs ht he
    have : (execOp a.eval o').run P w = .ok (.value (.slice (some ⟨w.heap.size, 0, none⟩) v.size (grownCap w v.size 0 e))) (w.drew.alloc (.cells (bytesRow v (grownCap w v.size 0 e)) e ((bytesRow v (grownCap w v.size 0 e)).size, (bytesRow v (grownCap w v.size 0 e)).size + 1))) := by
     simp [execOp, hop, qG ha hx, hc]
    simp only [Oper.wp, this, Oper.upon]
    rw [hd]
    refine hK _ w.heap.size _ rfl (by show (w.heap.push _).size = _; simp) ?_ ((Ch.drew _ _).trans (Ch.alloc _ _ _) (fun _ _ h => h)) _ (ha.pushd hdk _)
    refine ⟨(fun ea => by cases ea), fun ad ea j y hj => ?_⟩
    obtain rfl := Option.some.inj ea
    have hl := (List.getElem?_eq_some_iff.1 hj).1
    rw [qgY] at hl
    rw [qbu, Nat.zero_add]
    have hb := heap_alloc_new w.drew (.cells (bytesRow v (grownCap w v.size 0 e)) e ((bytesRow v (grownCap w v.size 0 e)).size, (bytesRow v (grownCap w v.size 0 e)).size + 1))
    have hd0 : w.drew.heap = w.heap := rfl
    rw [hd0] at hb
    simp only [World.cell?, hb]
    unfold bytesRow
    rw [Array.getElem?_append_left (by simpa using hl), ← hj]
    unfold qeg
    simp
   ·cases h
  ·cases h
 ·cases h
end
section
variable {P : Program} {N : Nat} {ops : Array Oper} {Q : Exit → Act → World → Prop} {f : Fr} {k : Nat} {K : Act → World → Prop} {w : World}
def zeroB (z : Value) : Bool := match z with
 | .int .u8 n => n == 0
 | _ => false
theorem zeroB_eq {z : Value} (h : zeroB z = true) : z = .int .u8 0 := by
 unfold zeroB at h
 split at h
 ·rw [beq_iff_eq.1 h]
 ·cases h
def appSAt (P : Program) (N : Nat) (ops : Array Oper) (f : Fr) (k : Nat) : Option (TypeId × Value × ByteArray × Option Tmp) :=
 match qgb N ops f k with
 | some (.call ⟨.builtin .append, args, tys⟩, d) => match tys.toList, evs f args.toList with
  | [t, t'], some [u, .string x] => match P.underlying t, P.underlying t' with
   | some (.slice e), some .string => match qdP P e, (P.info? e).bind (·.zero), (P.info? e).map (·.bytes) with
    | some sz, some z, some bs => if sz = 1 ∧ zeroB z = true ∧ bs = 1 then some (e, u, x, d) else none
    | _, _, _ => none
   | _, _ => none
  | _, _ => none
 | _ => none
structure App (w w' : World) (o o' : Option Nat) : Prop where
 ch : Ch (fun b => o = some b) w w'
 ne : o' = o ∨ ∃ g, o' = some g ∧ w.heap.size ≤ g
theorem App.refl (w : World) (o : Option Nat) : App w w o o := ⟨Ch.refl _ _, .inl rfl⟩
theorem App.trans {w w1 w2 : World} {o o1 o2 : Option Nat} (h : App w w1 o o1) (k : App w1 w2 o1 o2) : App w w2 o o2 := by
 refine ⟨h.ch.trans k.ch fun i hi e => ?_, ?_⟩
 ·rcases h.ne with rfl | ⟨g, rfl, hg⟩
  ·exact e
  ·have := Option.some.inj e; omega
 ·have hs := h.ch.size
  rcases k.ne with rfl | ⟨g, rfl, hg⟩
  ·exact h.ne
  ·exact .inr ⟨g, rfl, by omega⟩
theorem App.step {w w1 w2 : World} {o o1 : Option Nat} {B : Nat → Prop} (h : App w w1 o o1) (k : Ch B w1 w2) (hB : ∀ i, i < w.heap.size → ¬ B i) : App w w2 o o1 := by
 have hs := h.ch.size
 exact ⟨h.ch.trans k fun i hi e => absurd e (hB i hi), h.ne⟩
theorem App.apart {w w' : World} {o o' : Option Nat} (h : App w w' o o') {y : Nat} (hy : y < w.heap.size) (hn : ∀ b, o = some b → ¬ b = y) : ∀ b, o' = some b → ¬ b = y := fun b e => by
 rcases h.ne with rfl | ⟨g, rfl, hg⟩
 ·exact hn b e
 ·have := Option.some.inj e; omega
theorem App.not {w w' : World} {o o' : Option Nat} (_h : App w w' o o') {y : Nat} (hn : ∀ b, o = some b → ¬ b = y) : ¬ o = some y := fun e => hn y e rfl
theorem run_appS {e : TypeId} {o : Option Nat} {n cap : Nat} {xs : List Value} {x : ByteArray} {t u ty : TypeId} {i : TypeInfo} (ht : P.underlying t = some (.slice e)) (hu : P.underlying u = some .string) (hi : P.info? e = some i) (hz : i.zero = some (.int .u8 0)) (hsz : i.size = 1) (hby : i.bytes = 1)
  (ho : Own w e 1 o n cap xs) (hb : n + x.size ≤ maxLen ∧ n + x.size ≤ 140737488355328) :
  ∃ o' cap' w', (Builtin.append_ #[t, u] ty #[.slice (o.map at0) n cap, .string x]).run P w = .ok (.slice (o'.map at0) (n + x.size) cap') w' ∧ Own w' e 1 o' (n + x.size) cap' (xs ++ qeg x) ∧ App w w' o o' := by
 have hsm : n + x.size ≤ 9223372036854775807 := by have h := hb.2; omega
 have hbl : (qeg x).length = x.size := qgY x
 cases o with
 | none =>
  obtain ⟨rfl, rfl⟩ := ho.2.2.2.1 rfl
  have hx : xs = [] := List.eq_nil_of_length_eq_zero (by simpa using ho.1)
  subst hx
  obtain ⟨v', w', hrun, q1, q2, q3⟩ := Go.Lib.run_append_own_string (P := P) w w.heap.size t u ty e i ht hu hi hz hsz hby _ 0 [] (World.ownsRow_nil w w.heap.size e 1) x hb.1 hb.2 (Nat.le_refl _)
  have hch : Ch (fun b => (none : Option Nat) = some b) w w' := (Ch.grown q2).mono fun i _ hi => by cases hi
  rcases q1.2 with ⟨rfl, h0⟩ | ⟨g, cap', cur, rfl, hmg, hheap, hle, hmax, hsize, htake⟩
  ·refine ⟨none, 0, w', ?_, ⟨q1.1, by omega, Nat.zero_le _, fun _ => ⟨by omega, rfl⟩, fun _ e => by cases e⟩, ⟨hch, .inl rfl⟩⟩
   rw [h0]; exact hrun
  ·refine ⟨some g, cap', w', hrun, ⟨q1.1, hle, hmax, (fun e => by cases e), fun g' e' => ?_⟩, ⟨hch, .inr ⟨g, rfl, hmg⟩⟩⟩
   obtain rfl := Option.some.inj e'
   refine ⟨cur.toList.drop ((0 + x.size) * 1), ?_, ?_⟩
   ·rw [List.length_drop, Array.length_toList, hsize, Nat.sub_mul]
   ·show w'.heap[g]? = _
    have htk : cur.toList.take ((0 + x.size) * 1) = [] ++ qeg x := htake
    rw [hheap, ← htk, List.take_append_drop, Array.toArray_toList]
 | some g =>
  obtain ⟨r, hr, hblk⟩ := ho.2.2.2.2 g rfl
  have hxl : xs.length = n := by simpa using ho.1
  have hnc := ho.2.1
  by_cases hroom : n + x.size ≤ cap
  ·have hrl : r.length = cap - n := by simpa using hr
   have hrun := Go.Lib.run_append_room_string (P := P) w t u ty e i ht hu hi hsz g n cap (xs ++ r).toArray hblk x hroom (by simp; omega)
   refine ⟨some g, cap, _, hrun, ⟨?_, hroom, ho.2.2.1, (fun e => by cases e), fun g' e' => ?_⟩, ⟨⟨rfl, rfl, rfl, by simp, fun k hk hn => setRow_other w g k _ fun e => hn (by rw [e])⟩, .inl rfl⟩⟩
   ·rw [List.length_append, hbl, hxl, Nat.mul_one]
   ·obtain rfl := Option.some.inj e'
    refine ⟨r.drop x.size, by rw [List.length_drop, hrl]; omega, ?_⟩
    have h2 := setRow_heap w g _ (((xs ++ r).toArray.toList.take n ++ Go.Lib.strCells x ++ (xs ++ r).toArray.toList.drop (n + x.size)).toArray) e (0, 0) hblk
    refine h2.trans ?_
    have e1 : (xs ++ r).take n = xs := by rw [← hxl, List.take_left]
    have e2 : (xs ++ r).drop (n + x.size) = r.drop x.size := by rw [← hxl, List.drop_append]; simp
    show some (Obj.cells (((xs ++ r).take n ++ Go.Lib.strCells x ++ (xs ++ r).drop (n + x.size)).toArray) e (0, 0)) = _
    rw [e1, e2]; rfl
  ·have hrun := Go.Lib.run_append_grow_string (P := P) w t u ty e i (.int .u8 0) ht hu hi hz ⟨g, 0, none⟩ n cap xs (by rw [hsz]; exact ho.1) (ho.rd.2 _ rfl) x (by omega) (by omega) (by rw [hby]; exact growslice_fits (by omega) (by omega))
   have hge := grownCap_ge w (n + x.size) cap e
   have hcm : grownCap w (n + x.size) cap e ≤ maxLen := grownCap_le_maxLen w (n + x.size) cap e hb.1
   refine ⟨some w.heap.size, _, _, hrun, ⟨by rw [List.length_append, hbl, hxl, Nat.mul_one], hge, hcm, (fun e => by cases e), fun g' e' => ?_⟩, ⟨(Ch.drew _ _).trans (Ch.alloc _ _ _) (fun _ _ h => h), .inr ⟨_, rfl, Nat.le_refl _⟩⟩⟩
   obtain rfl := Option.some.inj e'
   refine ⟨(Builtin.zeroCells (Value.int .u8 0).cells (grownCap w (n + x.size) cap e - (n + x.size))).toList, ?_, ?_⟩
   ·rw [Array.length_toList, size_zeroCells]; rfl
   ·refine (heap_alloc_new w.drew _).trans ?_
    congr 2
    apply Array.ext'
    simp [Go.Lib.strCells, qeg]
theorem e_appS (e : TypeId) (o : Option Nat) (n cap : Nat) (xs : List Value) (x : ByteArray) (d : Option Tmp) (t : Nat) (ht : n + x.size = t)
  (h : appSAt P N ops f k = some (e, .slice (o.map at0) n cap, x, d))
  (ho : Own w e 1 o n cap xs) (hb : t ≤ maxLen ∧ t ≤ 140737488355328)
  (hK : ∀ w' o' cap', Own w' e 1 o' t cap' (xs ++ qeg x) → App w w' o o' → ∀ a', Has N (pushd d (.slice (o'.map at0) t cap') f) a' → K a' w') : ∀ a, Has N f a → wpOp P ops Q k K a w := by
 subst ht
 intro a ha
 unfold appSAt at h
 split at h
 ·rename_i args tys d' hop0
  split at h
  ·rename_i t t' u' x' ht hv
   split at h
   ·rename_i e' hu hu'
    split at h
    ·rename_i sz z bs hs hz hbs
     split at h
     ·rename_i hc
      obtain ⟨rfl, hz0, rfl⟩ := hc
      obtain rfl := zeroB_eq hz0
      simp only [Option.some.injEq, Prod.mk.injEq] at h
      obtain ⟨rfl, rfl, rfl, rfl⟩ := h
      obtain ⟨i, hi, hsz⟩ := qbX hs
      rw [hi] at hz hbs
      have htys : tys = #[t, t'] := by apply Array.toList_inj.1; simpa using ht
      refine qaQ hop0 ha fun o' hop hd hdk => ?_
      have he := qbf ha hv
      obtain ⟨o2, cap', w', hrun, q1, q2⟩ := run_appS (P := P) (ty := o'.type) hu hu' hi (by simpa using hz) hsz (by simpa using hbs) ho hb
      have : (execOp a.eval o').run P w = .ok (.value (.slice (o2.map at0) (n + x'.size) cap')) w' := by
       rw [htys] at hop
       simp [execOp, hop, resolve, he, invoke, builtin, hrun]
      simp only [Oper.wp, this, Oper.upon]
      rw [hd]
      exact hK w' o2 cap' q1 q2 _ (ha.pushd hdk _)
     ·cases h
    ·cases h
   ·cases h
  ·cases h
 ·cases h
theorem App.of {w w' : World} {o o' : Option Nat} (hne : o' = o ∨ ∃ g, o' = some g ∧ w.heap.size ≤ g) (hc : Ch (fun b => o = some b) w w') : App w w' o o' := ⟨hc, hne⟩
theorem e_copyS (b o dl dc : Nat) (x : ByteArray) {cs : List Value} {T : TypeId} (d : Option Tmp)
  (h : qfz P N ops f k = some (1, .slice (some ⟨b, o, none⟩) dl dc, .string x, d))
  (hb : Blk w b cs T) (hx : x.size ≤ dl) (hfit : o + x.size ≤ cs.length)
  (hK : ∀ w', Blk w' b (put cs o (qeg x)) T → Ch (fun k => k = b) w w' → ∀ a', Has N (pushd d (.int .i64 (x.size : Nat)) f) a' → K a' w') :
  ∀ a, Has N f a → wpOp P ops Q k K a w := by
 intro a ha
 have one : ∀ u ∈ qeg x, u.oneCell' = true := fun u hu => by
  unfold qeg at hu
  obtain ⟨c, _, rfl⟩ := List.mem_map.1 hu
  rfl
 have hbl := qgY x
 unfold qfz at h
 split at h
 ·rename_i args tys d' ho
  split at h
  ·rename_i t t' u' v' ht hv
   split at h
   ·rename_i e hu
    split at h
    ·rename_i sz' hs
     simp only [Option.some.injEq, Prod.mk.injEq] at h
     obtain ⟨rfl, rfl, rfl, rfl⟩ := h
     obtain ⟨i, hi, hsz⟩ := qbX hs
     have htys : tys = #[t, t'] := by apply Array.toList_inj.1; simpa using ht
     refine qaQ ho ha fun o' hop hd hdk => ?_
     have he := qbf ha hv
     have hmin : Nat.min x.size dl = x.size := Nat.min_eq_left hx
     have hload := Go.Lib.run_firstCells_string (P := P) w 1 x
     have hst := run_storeCells_at P b o T (qeg x) 0 cs.toArray w hb (by rw [hbl]; simpa using hfit) one
     have hrun : (Builtin.copy_ #[t, t'] o'.type #[.slice (some ⟨b, o, none⟩) dl dc, .string x]).run P w = .ok (.int .i64 (x.size : Nat)) (w.setRow b (put cs o (qeg x)).toArray) := by
      simp [Builtin.copy_, run_underlying hu, Builtin.lenOf, sizeOf, typeInfo, hi, hsz, hmin, hload, goInt]
      rw [show (storeCells ⟨b, o, none⟩ (Go.Lib.strCells x)).run P w = _ from hst]
      simp [put]
     have : (execOp a.eval o').run P w = .ok (.value (.int .i64 (x.size : Nat))) (w.setRow b (put cs o (qeg x)).toArray) := by
      rw [htys] at hop
      simp [execOp, hop, resolve, he, invoke, builtin, hrun]
     simp only [Oper.wp, this, Oper.upon]
     rw [hd]
     exact hK _ (hb.set _) (Ch.setRow _ _ _) _ (ha.pushd hdk _)
    ·cases h
   ·cases h
  ·cases h
 ·cases h
theorem e_copyS' (b o dl dc : Nat) (x : ByteArray) {cs : List Value} {T : TypeId} (d : Option Tmp) (t : Int) (ht : ((x.size : Nat) : Int) = t)
  (h : qfz P N ops f k = some (1, .slice (some ⟨b, o, none⟩) dl dc, .string x, d))
  (hb : Blk w b cs T) (hx : x.size ≤ dl) (hfit : o + x.size ≤ cs.length)
  (hK : ∀ w', Blk w' b (put cs o (qeg x)) T → Ch (fun k => k = b) w w' → ∀ a', Has N (pushd d (.int .i64 t) f) a' → K a' w') :
  ∀ a, Has N f a → wpOp P ops Q k K a w := by
 subst ht
 exact e_copyS b o dl dc x d h hb hx hfit hK
end
abbrev tU8 : TypeId := 5
abbrev tRdr : TypeId := 102
abbrev u8s (l : List Int) : List Value := l.map (Value.int .u8)
abbrev u64s (l : List Int) : List Value := l.map (Value.int .u64)
def qb4 (ns : List Int) : List Int := ns.flatMap fun x => qch x.toNat
theorem qgZ {w : World} {b o : Nat} {l : List Int} (h : Rd w (some ⟨b, o, none⟩) (u8s l)) {k : Nat} (hk : k < l.length) : w.cell? ⟨b, o + ((k : Nat) : Int).toNat * 1, none⟩ = some (.int .u8 (l.getD k 0)) := by
 rw [Int.toNat_natCast, Nat.mul_one]
 refine qbs h k _ ?_
 rw [List.getElem?_map, List.getElem?_eq_getElem hk]
 simp [List.getD, List.getElem?_eq_getElem hk]
theorem u64_cell {w : World} {b o : Nat} {l : List Int} (h : Rd w (some ⟨b, o, none⟩) (u64s l)) {k : Nat} (hk : k < l.length) : w.cell? ⟨b, o + ((k : Nat) : Int).toNat * 1, none⟩ = some (.int .u64 (l.getD k 0)) := by
 rw [Int.toNat_natCast, Nat.mul_one]
 refine qbs h k _ ?_
 rw [List.getElem?_map, List.getElem?_eq_getElem hk]
 simp [List.getD, List.getElem?_eq_getElem hk]
theorem drop_at {l : List Int} {k : Nat} (hk : k < l.length) : l.drop k = l.getD k 0 :: l.drop (k + 1) := by
 rw [List.drop_eq_getElem_cons hk]
 simp [List.getD, List.getElem?_eq_getElem hk]
theorem qmD {l : List Int} {k : Nat} (hk : k < l.length) : l.take (k + 1) = l.take k ++ [l.getD k 0] := by
 rw [List.take_succ_eq_append_getElem hk]
 simp [List.getD, List.getElem?_eq_getElem hk]
theorem qeB {l : List Int} {k : Nat} (hk : k < l.length) : l.getD k 0 ∈ l := by
 simp [List.getD, List.getElem?_eq_getElem hk]
theorem qkO (l : List Int) (x : Int) : qb4 (l ++ [x]) = qb4 l ++ qch x.toNat := by simp [qb4]
structure RdrIn (w : World) (rv D : Nat) (a : Option Addr) (n cap : Nat) (ys : List Int) (bad : Bool) : Prop where
 blk : Blk w rv [.slice a n cap, .bool bad] tRdr
 rd : Rd w a (u8s ys)
 len : ys.length = n
 le : n ≤ cap
 z : (n = 0 ∧ cap = 0) ∨ ∃ o, a = some ⟨D, o, none⟩
 byt : qfq ys
 ne : ¬ rv = D
 big : n ≤ 1000000
 dl : D < w.heap.size
def rsOf (bad : Bool) (ys : List Int) : RS := if bad = true then none else some ys
def RdrAt (w : World) (rv D : Nat) (s : RS) : Prop := ∃ a n cap ys bad, RdrIn w rv D a n cap ys bad ∧ s = rsOf bad ys
section
variable {w w' : World} {rv D : Nat} {a : Option Addr} {n cap : Nat} {ys : List Int} {bad : Bool} {s : RS} {B : Nat → Prop}
theorem RdrIn.rdch (h : RdrIn w rv D a n cap ys bad) (hc : Ch B w w') (h2 : ¬ B D) : Rd w' a (u8s ys) := by
 rcases h.z with ⟨h0, _⟩ | ⟨o, rfl⟩
 ·obtain rfl := List.eq_nil_of_length_eq_zero (h.len.trans h0)
  exact Rd.nil _ _
 ·exact h.rd.ch hc fun ad e => by cases e; exact h2
theorem RdrIn.some (h : RdrIn w rv D a n cap ys bad) (hn : n ≠ 0) : ∃ o, a = Option.some ⟨D, o, none⟩ := by
 rcases h.z with ⟨h, _⟩ | h
 ·exact absurd h hn
 ·exact h
theorem RdrIn.ch (h : RdrIn w rv D a n cap ys bad) (hc : Ch B w w') (h1 : ¬ B rv) (h2 : ¬ B D) : RdrIn w' rv D a n cap ys bad :=
 {h with
  blk := h.blk.ch hc h1
  rd := h.rdch hc h2
  dl := Nat.lt_of_lt_of_le h.dl hc.size }
def RdrX (w : World) (rv D : Nat) (s : RS) : Prop := ∃ a n cap ys bad, RdrIn w rv D a n cap ys bad ∧ s = rsOf bad ys ∧ (bad = true ∨ ∃ o, a = Option.some ⟨D, o, none⟩)
theorem RdrX.at (h : RdrX w rv D s) : RdrAt w rv D s := by
 obtain ⟨a, n, cap, ys, bad, h, e, _⟩ := h
 exact ⟨a, n, cap, ys, bad, h, e⟩
theorem RdrAt.ch (h : RdrAt w rv D s) (hc : Ch B w w') (h1 : ¬ B rv) (h2 : ¬ B D) : RdrAt w' rv D s := by
 obtain ⟨a, n, cap, ys, bad, h, e⟩ := h
 exact ⟨a, n, cap, ys, bad, h.ch hc h1 h2, e⟩
theorem RdrAt.lt (h : RdrAt w rv D s) : rv < w.heap.size := by
 obtain ⟨a, n, cap, ys, bad, h, e⟩ := h
 exact h.blk.lt
theorem RdrAt.dlt (h : RdrAt w rv D s) : D < w.heap.size := by
 obtain ⟨a, n, cap, ys, bad, h, e⟩ := h
 exact h.dl
theorem RdrAt.rs (h : RdrAt w rv D s) : rsB s := by
 obtain ⟨a, n, cap, ys, bad, h, rfl⟩ := h
 intro zs e
 unfold rsOf at e
 split at e
 ·cases e
 ·obtain rfl := Option.some.inj e
  exact h.byt
theorem RdrIn.spoil (h : RdrIn w rv D a n cap ys bad) (hc : Ch (fun j => j = rv) w w') (hb : Blk w' rv [.slice a n cap, .bool true] tRdr) : RdrX w' rv D none :=
 ⟨a, n, cap, ys, true, { h with
  blk := hb
  rd := h.rdch hc fun e => h.ne e.symm
  dl := Nat.lt_of_lt_of_le h.dl hc.size }, rfl, .inl rfl⟩
theorem RdrIn.drop {o : Nat} (h : RdrIn w rv D (Option.some ⟨D, o, none⟩) n cap ys false) (k : Nat) (hk : k ≤ n) (hc : Ch (fun j => j = rv) w w') (hb : Blk w' rv [.slice (Option.some ⟨D, if cap = k then o else o + k * 1, none⟩) (n - k) (cap - k), .bool false] tRdr) : RdrX w' rv D (Option.some (ys.drop k)) := by
 have hr := h.rdch hc fun e => h.ne e.symm
 refine ⟨_, n - k, cap - k, ys.drop k, false, ⟨hb, ⟨(fun e => by cases e), fun ad e j u hj => ?_⟩, by rw [List.length_drop, h.len], by have := h.le; omega, .inr ⟨_, rfl⟩, qf1 h.byt k, h.ne, by have := h.big; omega, Nat.lt_of_lt_of_le h.dl hc.size⟩, rfl, .inr ⟨_, rfl⟩⟩
 cases e
 have hl := (List.getElem?_eq_some_iff.1 hj).1
 rw [List.length_map, List.length_drop, h.len] at hl
 have hle := h.le
 rw [if_neg (show ¬ cap = k by omega)]
 have := hr.2 ⟨D, o, none⟩ rfl (k + j) u (by
  rw [u8s, List.getElem?_map, List.getElem?_drop, ← List.getElem?_map] at hj
  exact hj)
 rw [qbu] at this ⊢
 rw [show o + k * 1 + j = o + (k + j) by omega]
 exact this
end
theorem numR_bad {lim : Int} {ys : List Int} : qO lim (rsOf true ys) = (0, none) := rfl
theorem qiN {lim : Int} {ys : List Int} {bad : Bool} (h : (qae ys).2 = 0 ∨ 9223372036854775807 < (qae ys).1 ∨ (0 < lim ∧ lim ≤ ((qae ys).1 : Int))) : qO lim (rsOf bad ys) = (0, none) := by
 cases bad with
 | true => rfl
 | false => show (if _ then _ else _) = _; rw [if_pos h]
theorem qjH {lim : Int} {ys : List Int} (h0 : ¬ (qae ys).2 = 0) (h1 : ¬ 9223372036854775807 < (qae ys).1) (h2 : ¬ (0 < lim ∧ lim ≤ ((qae ys).1 : Int))) : qO lim (rsOf false ys) = (((qae ys).1 : Int), some (ys.drop (qae ys).2)) := by
 show (if _ then _ else _) = _
 rw [if_neg (by rintro (h | h | h); exact h0 h; exact h1 h; exact h2 h)]
set_option maxHeartbeats 4000000 in
theorem take_any (a : Option Addr) (n cap : Nat) (us : List Int) (w : World) (hr : Rd w a (u8s us)) (hl : us.length = n) (hz : n = 0 ∨ ∃ b o, a = some ⟨b, o, none⟩) (hb : qfq us) (hn : n ≤ 1000000) : Calls Tryz.prog 64 [.slice a n cap].toArray w fun e w' => e = .returned (.tuple #[.int .u64 ((qae us).1 : Int), iX ((qae us).2 : Int)]) ∧ Ch (fun _ => False) w w' := by
 refine yA Tryz.func64 rfl <| yx 2 <| yx 1 <| ys <| yx 3 <| q8 <| qN [4, 7, 8, 9] (f' := [(4, .int .u64 0), (7, .slice a n cap), (8, iX ((n : Nat) : Int)), (9, iX 0)]) <| qw (σ := Nat × Int) (fun ⟨k, x⟩ => [(4, .int .u64 x), (7, .slice a n cap), (8, iX ((n : Nat) : Int)), (9, iX ((k : Nat) : Int))]) (fun ⟨k, x⟩ u => k ≤ n ∧ qct 0 0 us = qct k x (us.drop k) ∧ Ch (fun _ => False) w u) (fun ⟨k, x⟩ => n - k) (0, 0) rfl ?_ ?_
 ·exact ⟨Nat.zero_le _, rfl, Ch.refl _ _⟩
 intro p I D J C; obtain ⟨k, x⟩ := p; obtain ⟨hk, hG, g⟩ := D; have f := zu (zm w) g iZ; have E := Rd.ch hr g iZ; refine yx 1 <| ys <| yc (rL ((k : Nat) : Int) ((n : Nat) : Int)) (fun F => ?_) fun F => ?_
 ·obtain ⟨pb, po, rfl⟩ := hz.resolve_left (by omega); have G := drop_at (l := us) (k := k) (by omega); have K := hb _ (qeB (l := us) (k := k) (by omega)); rw [G] at hG; refine yk <| ys <| q8 <| ysr <| yp 5 [] (.i ((k : Nat) : Int) (n) (.l (o := (po + (((k : Nat) : Int)).toNat * 1)) (qgZ E (k := k) (by omega)) .z)) <| ye <| ys <| ysr <| yq 3 <| yw [16] (rE ((k : Nat) : Int) 9) (fun h => ?_) fun h => ?_
  ·have L := h; refine yq 7 <| yw [20] (rL 1 (us.getD k 0)) (fun j => ?_) fun j => ?_
   ·have M := j; refine yz 10 <| yct <| yx 2 <| qd (rS (rB (rS (qy (rB (rS (yR2 [.int .u64 0, iX 0] .z ?_))))))); have hN := qbT hb; rw [hG] at hN; rw [qct] at hN
    first
     | (exfalso; omega)
     | (rw [if_pos (by omega)] at hN; obtain ⟨c, d⟩ := Prod.mk.inj hN; exact ⟨by rw [← c, ← d], Up.ch f⟩)
     | (rw [if_neg (by omega), if_pos (by omega), if_pos (by omega)] at hN; obtain ⟨c, d⟩ := Prod.mk.inj hN; exact ⟨by rw [← c, ← d], Up.ch f⟩)
     | (rw [if_neg (by omega), if_pos (by omega), if_neg (by omega)] at hN; obtain ⟨c, d⟩ := Prod.mk.inj hN; exact ⟨by rw [← c, ← d], Up.ch f⟩)
   have N := j; refine yz 10 <| yc (rL 9 ((k : Nat) : Int)) (fun m => ?_) fun m => ?_
   ·have O := m; refine yx 2 <| qd (rS (rB (rS (qy (rB (rS (yR2 [.int .u64 0, iX 0] .z ?_))))))); have hN := qbT hb; rw [hG] at hN; rw [qct] at hN
    first
     | (exfalso; omega)
     | (rw [if_pos (by omega)] at hN; obtain ⟨c, d⟩ := Prod.mk.inj hN; exact ⟨by rw [← c, ← d], Up.ch f⟩)
     | (rw [if_neg (by omega), if_pos (by omega), if_pos (by omega)] at hN; obtain ⟨c, d⟩ := Prod.mk.inj hN; exact ⟨by rw [← c, ← d], Up.ch f⟩)
     | (rw [if_neg (by omega), if_pos (by omega), if_neg (by omega)] at hN; obtain ⟨c, d⟩ := Prod.mk.inj hN; exact ⟨by rw [← c, ← d], Up.ch f⟩)
   have P := m; refine yk <| ysr <| yp 9 [] (.q6 (7 * ((k : Nat) : Int)) (.p (q := 0 ≤ ((7 * ((k : Nat) : Int)) : Int)) (by omega) .z)) <| ye <| yx 2 <| yc (rL (us.getD k 0) 128) (fun r => ?_) fun r => ?_
   ·have Q := r; refine ys <| ysr <| yq 3 <| yw [36] (rE (us.getD k 0) 0) (fun s => ?_) fun s => ?_
    ·have R := s; refine yz 6 <| yc (rL 0 ((k : Nat) : Int)) (fun t => ?_) fun t => ?_
     ·have S := t; refine yx 2 <| qd (rS (rB (rS (qy (rB (rS (yR2 [.int .u64 0, iX 0] .z ?_))))))); have hN := qbT hb; rw [hG] at hN; rw [qct] at hN
      first
       | (exfalso; omega)
       | (rw [if_pos (by omega)] at hN; obtain ⟨c, d⟩ := Prod.mk.inj hN; exact ⟨by rw [← c, ← d], Up.ch f⟩)
       | (rw [if_neg (by omega), if_pos (by omega), if_pos (by omega)] at hN; obtain ⟨c, d⟩ := Prod.mk.inj hN; exact ⟨by rw [← c, ← d], Up.ch f⟩)
       | (rw [if_neg (by omega), if_pos (by omega), if_neg (by omega)] at hN; obtain ⟨c, d⟩ := Prod.mk.inj hN; exact ⟨by rw [← c, ← d], Up.ch f⟩)
     have T := t; refine yk <| ysr <| yp 5 [] (.q6 (((k : Nat) : Int) + 1) .z) <| ye <| qd (rB (rS (qy (rB (rS (yR2 [.int .u64 (ql .or .u64 x (IntKind.wrap .u64 ((IntKind.wrap .u64 (ql .and .u8 (us.getD k 0) 127)) * 2 ^ min ((7 * ((k : Nat) : Int)) : Int).toNat (IntKind.bits .u64)))), iX (((k : Nat) : Int) + 1)] .z ?_)))))); have hN := qbT hb; rw [hG] at hN; rw [qct] at hN
     first
      | (exfalso; omega)
      | (rw [if_pos (by omega)] at hN; obtain ⟨c, d⟩ := Prod.mk.inj hN; exact ⟨by rw [← c, ← d], Up.ch f⟩)
      | (rw [if_neg (by omega), if_pos (by omega), if_pos (by omega)] at hN; obtain ⟨c, d⟩ := Prod.mk.inj hN; exact ⟨by rw [← c, ← d], Up.ch f⟩)
      | (rw [if_neg (by omega), if_pos (by omega), if_neg (by omega)] at hN; obtain ⟨c, d⟩ := Prod.mk.inj hN; exact ⟨by rw [← c, ← d], Up.ch f⟩)
    have U := s; refine yz 6 <| ycf <| yk <| ysr <| yp 5 [] (.q6 (((k : Nat) : Int) + 1) .z) <| ye <| qd (rB (rS (qy (rB (rS (yR2 [.int .u64 (ql .or .u64 x (IntKind.wrap .u64 ((IntKind.wrap .u64 (ql .and .u8 (us.getD k 0) 127)) * 2 ^ min ((7 * ((k : Nat) : Int)) : Int).toNat (IntKind.bits .u64)))), iX (((k : Nat) : Int) + 1)] .z ?_)))))); have hN := qbT hb; rw [hG] at hN; rw [qct] at hN
    first
     | (exfalso; omega)
     | (rw [if_pos (by omega)] at hN; obtain ⟨c, d⟩ := Prod.mk.inj hN; exact ⟨by rw [← c, ← d], Up.ch f⟩)
     | (rw [if_neg (by omega), if_pos (by omega), if_pos (by omega)] at hN; obtain ⟨c, d⟩ := Prod.mk.inj hN; exact ⟨by rw [← c, ← d], Up.ch f⟩)
     | (rw [if_neg (by omega), if_pos (by omega), if_neg (by omega)] at hN; obtain ⟨c, d⟩ := Prod.mk.inj hN; exact ⟨by rw [← c, ← d], Up.ch f⟩)
   have V := r; refine qp (nB (nS ?_)); refine q7 <| yp 2 [] (.q6 (((k : Nat) : Int) + 1) .z) <| yE (fun a ha => C (k + 1, orT x (us.getD k 0) k) _ ⟨by omega, by rw [hG, qct, if_neg (by omega), if_neg (by omega)], g⟩ (by show n - (k + 1) < n - k; omega) a (ha.kp [4, 7, 8, 9]))
  have W := h; refine yz 10 <| yc (rL 9 ((k : Nat) : Int)) (fun v => ?_) fun v => ?_
  ·have X := v; refine yx 2 <| qd (rS (rB (rS (qy (rB (rS (yR2 [.int .u64 0, iX 0] .z ?_))))))); have hN := qbT hb; rw [hG] at hN; rw [qct] at hN
   first
    | (exfalso; omega)
    | (rw [if_pos (by omega)] at hN; obtain ⟨c, d⟩ := Prod.mk.inj hN; exact ⟨by rw [← c, ← d], Up.ch f⟩)
    | (rw [if_neg (by omega), if_pos (by omega), if_pos (by omega)] at hN; obtain ⟨c, d⟩ := Prod.mk.inj hN; exact ⟨by rw [← c, ← d], Up.ch f⟩)
    | (rw [if_neg (by omega), if_pos (by omega), if_neg (by omega)] at hN; obtain ⟨c, d⟩ := Prod.mk.inj hN; exact ⟨by rw [← c, ← d], Up.ch f⟩)
  have Y := v; refine yk <| ysr <| yp 9 [] (.q6 (7 * ((k : Nat) : Int)) (.p (q := 0 ≤ ((7 * ((k : Nat) : Int)) : Int)) (by omega) .z)) <| ye <| yx 2 <| yc (rL (us.getD k 0) 128) (fun y => ?_) fun y => ?_
  ·have Z := y; refine ys <| ysr <| yq 3 <| yw [36] (rE (us.getD k 0) 0) (fun A => ?_) fun A => ?_
   ·have a0 := A; refine yz 6 <| yc (rL 0 ((k : Nat) : Int)) (fun B => ?_) fun B => ?_
    ·have a1 := B; refine yx 2 <| qd (rS (rB (rS (qy (rB (rS (yR2 [.int .u64 0, iX 0] .z ?_))))))); have hN := qbT hb; rw [hG] at hN; rw [qct] at hN
     first
      | (exfalso; omega)
      | (rw [if_pos (by omega)] at hN; obtain ⟨c, d⟩ := Prod.mk.inj hN; exact ⟨by rw [← c, ← d], Up.ch f⟩)
      | (rw [if_neg (by omega), if_pos (by omega), if_pos (by omega)] at hN; obtain ⟨c, d⟩ := Prod.mk.inj hN; exact ⟨by rw [← c, ← d], Up.ch f⟩)
      | (rw [if_neg (by omega), if_pos (by omega), if_neg (by omega)] at hN; obtain ⟨c, d⟩ := Prod.mk.inj hN; exact ⟨by rw [← c, ← d], Up.ch f⟩)
    have a2 := B; refine yk <| ysr <| yp 5 [] (.q6 (((k : Nat) : Int) + 1) .z) <| ye <| qd (rB (rS (qy (rB (rS (yR2 [.int .u64 (ql .or .u64 x (IntKind.wrap .u64 ((IntKind.wrap .u64 (ql .and .u8 (us.getD k 0) 127)) * 2 ^ min ((7 * ((k : Nat) : Int)) : Int).toNat (IntKind.bits .u64)))), iX (((k : Nat) : Int) + 1)] .z ?_)))))); have hN := qbT hb; rw [hG] at hN; rw [qct] at hN
    first
     | (exfalso; omega)
     | (rw [if_pos (by omega)] at hN; obtain ⟨c, d⟩ := Prod.mk.inj hN; exact ⟨by rw [← c, ← d], Up.ch f⟩)
     | (rw [if_neg (by omega), if_pos (by omega), if_pos (by omega)] at hN; obtain ⟨c, d⟩ := Prod.mk.inj hN; exact ⟨by rw [← c, ← d], Up.ch f⟩)
     | (rw [if_neg (by omega), if_pos (by omega), if_neg (by omega)] at hN; obtain ⟨c, d⟩ := Prod.mk.inj hN; exact ⟨by rw [← c, ← d], Up.ch f⟩)
   have a3 := A; refine yz 6 <| ycf <| yk <| ysr <| yp 5 [] (.q6 (((k : Nat) : Int) + 1) .z) <| ye <| qd (rB (rS (qy (rB (rS (yR2 [.int .u64 (ql .or .u64 x (IntKind.wrap .u64 ((IntKind.wrap .u64 (ql .and .u8 (us.getD k 0) 127)) * 2 ^ min ((7 * ((k : Nat) : Int)) : Int).toNat (IntKind.bits .u64)))), iX (((k : Nat) : Int) + 1)] .z ?_)))))); have hN := qbT hb; rw [hG] at hN; rw [qct] at hN
   first
    | (exfalso; omega)
    | (rw [if_pos (by omega)] at hN; obtain ⟨c, d⟩ := Prod.mk.inj hN; exact ⟨by rw [← c, ← d], Up.ch f⟩)
    | (rw [if_neg (by omega), if_pos (by omega), if_pos (by omega)] at hN; obtain ⟨c, d⟩ := Prod.mk.inj hN; exact ⟨by rw [← c, ← d], Up.ch f⟩)
    | (rw [if_neg (by omega), if_pos (by omega), if_neg (by omega)] at hN; obtain ⟨c, d⟩ := Prod.mk.inj hN; exact ⟨by rw [← c, ← d], Up.ch f⟩)
  have a4 := y; refine qp (nB (nS ?_)); refine q7 <| yp 2 [] (.q6 (((k : Nat) : Int) + 1) .z) <| yE (fun a ha => C (k + 1, orT x (us.getD k 0) k) _ ⟨by omega, by rw [hG, qct, if_neg (by omega), if_neg (by omega)], g⟩ (by show n - (k + 1) < n - k; omega) a (ha.kp [4, 7, 8, 9]))
 have H : k = n := by omega
 refine qk (eS (qf (qe (nS ?_)))); refine yx 2 <| qd (yR2 [.int .u64 0, iX 0] .z ?_); have hN := qbT hb; rw [hG] at hN; rw [H, List.drop_eq_nil_of_le (by omega), qct] at hN; obtain ⟨c, d⟩ := Prod.mk.inj hN; exact ⟨by rw [← c, ← d], Up.ch f⟩
set_option maxHeartbeats 4000000 in
theorem putV_any (o : Option Nat) (n cap : Nat) (xs : List Int) (lb k : Nat) (ns : List Int) (w : World) (hO : Own w tU8 1 o n cap (u8s xs)) (hr : Rd w (some ⟨lb, 0, none⟩) (u64s ns)) (hk : ns.length = k) (hv : ∀ x ∈ ns, 0 ≤ x ∧ x ≤ 18446744073709551615) (hlb : lb < w.heap.size) (hne : ∀ b, o = some b → ¬ b = lb) (hz : n + 10 * k ≤ 1000000000) : Calls Tryz.prog 20 [.slice (o.map at0) n cap, .slice (some ⟨lb, 0, none⟩) k k].toArray w fun e w' =>
 ∃ o' n' cap', e = .returned (.slice (o'.map at0) n' cap') ∧ Own w' tU8 1 o' n' cap' (u8s (xs ++ qb4 ns)) ∧ n' ≤ n + 10 * k ∧ App w w' o o' := by
 refine yA Tryz.func20 rfl <| yx 1 <| ys <| yx 3 <| q8 <| qN [0, 7, 8, 9] (f' := [(0, .slice (o.map at0) n cap), (7, .slice (some ⟨lb, 0, none⟩) k k), (8, iX ((k : Nat) : Int)), (9, iX 0)]) <| qw (σ := Nat × Option Nat × Nat × Nat) (fun ⟨j, g, d, m⟩ => [(0, .slice (g.map at0) d m), (7, .slice (some ⟨lb, 0, none⟩) k k), (8, iX ((k : Nat) : Int)), (9, iX ((j : Nat) : Int))]) (fun ⟨j, g, d, m⟩ u => j ≤ k ∧ Own u tU8 1 g d m (u8s (xs ++ qb4 (ns.take j))) ∧ App w u o g ∧ d ≤ n + 10 * j) (fun ⟨j, g, d, m⟩ => k - j) (0, o, n, cap) rfl ?_ ?_
 ·exact ⟨Nat.zero_le _, by simpa [qb4] using hO, App.refl _ _, Nat.le_refl _⟩
 intro p ad L ae M; obtain ⟨j, g, d, m⟩ := p; obtain ⟨hj, A, v, af⟩ := L; have N := Ch.rd v.ch hr (fun h => hne _ h rfl); have ag := Nat.lt_of_lt_of_le hlb v.ch.size; refine yx 1 <| ys <| yc (rL ((j : Nat) : Int) ((k : Nat) : Int)) (fun B => ?_) fun B => ?_
 ·have ah := B; have ai := hv _ (qeB (l := ns) (k := j) (by omega)); refine yk <| ys <| q8 <| ysr <| yp 3 [] (.i ((j : Nat) : Int) (k) (.l (o := (0 + (((j : Nat) : Int)).toNat * 1)) (u64_cell N (k := j) (by omega)) .z)) <| ye <| ys <| q8 <| qN [0, 6, 7, 8, 9] (f' := [(0, .slice (g.map at0) d m), (6, .int .u64 (ns.getD j 0)), (7, .slice (some ⟨lb, 0, none⟩) k k), (8, iX ((k : Nat) : Int)), (9, iX ((j : Nat) : Int))]) <| qw (σ := Int × Nat × List Int × Option Nat × Nat × Nat) (fun ⟨x, f, zs, r, c, s⟩ => [(0, .slice (r.map at0) c s), (6, .int .u64 x), (7, .slice (some ⟨lb, 0, none⟩) k k), (8, iX ((k : Nat) : Int)), (9, iX ((j : Nat) : Int))]) (fun ⟨x, f, zs, r, c, s⟩ u => 0 ≤ x ∧ x.toNat < 128 ^ (f + 1) ∧ zs ++ qjC f x.toNat = (xs ++ qb4 (ns.take j)) ++ qch (ns.getD j 0).toNat ∧ Own u tU8 1 r c s (u8s zs) ∧ App w u o r ∧ c + f + 1 ≤ d + 10) (fun ⟨x, f, zs, r, c, s⟩ => x.toNat) (ns.getD j 0, 9, xs ++ qb4 (ns.take j), g, d, m) rfl ?_ ?_
  ·exact ⟨by omega, by have O : (128 : Nat) ^ (9 + 1) = 1180591620717411303424 := (by decide); rw [O]; omega, rfl, A, v, by omega⟩
  intro q aj P ak Q; obtain ⟨x, f, zs, r, c, s⟩ := q; obtain ⟨al, R, E, y, F, am⟩ := P; refine ys <| yx 2 <| yc (rM 128 x) (fun C => ?_) fun C => ?_
  ·have an := C; refine yk <| ys <| q8 <| q7 <| yq 4 <| yo (yB [uX (ql .or .u8 (IntKind.wrap .u8 x) 128)] 5 1 fun ao G ap aq S H => ?_); have ar := zv (b := G) y; have T := y.ch H iZ; have U := F.step H iZ; refine yo (qaf 5 1 1 r c s (u8s zs) (some ⟨G, 0, none⟩) 1 1 [uX (ql .or .u8 (IntKind.wrap .u8 x) 128)] (some 22) (c + 1) rfl (u8s (zs ++ [(ql .or .u8 (IntKind.wrap .u8 x) 128)])) (by rw [u8s, u8s, List.map_append]; rfl) (by kernel_rfl) T (Rd.all S) rfl rfl (fun h => by cases h) (by constructor <;> first | omega | (simp only [maxLen]; omega)) ?_); intro au V W X Y av Z; have a0 := U.trans (App.of Y Z); refine yq 7 <| yE (nB (nS ?_)); refine q7 <| yp 3 [] (.p (q := 0 ≤ (7 : Int)) (by omega) .z) ?_; obtain ⟨f, rfl⟩ : ∃ f', f = f' + 1 := by
    cases f with
    | zero => exfalso; have : x.toNat < 128 := R; omega
    | succ f => exact ⟨f, rfl⟩
   have D : x = ((x.toNat : Nat) : Int) := by omega
   have t := shr7_eq x.toNat; have I := low7_eq x.toNat; rw [← D] at t I; have aw : 128 ^ (f + 1 + 1) = 128 ^ (f + 1) * 128 := rfl; have hq : zs ++ [low7 x] ++ qjC f (shr7 x).toNat = (xs ++ qb4 (ns.take j)) ++ qch (ns.getD j 0).toNat := by rw [← E, qgS (by omega), t, I, Int.toNat_natCast, List.append_assoc]; rfl
   refine yE (fun a ha => Q (shr7 x, f, zs ++ [low7 x], V, (c + 1), W) _ ⟨by rw [t]; omega, by rw [t]; omega, hq, X, a0, by omega⟩ (by show (shr7 x).toNat < x.toNat; rw [t]; omega) a (ha.kp [0, 6, 7, 8, 9]))
  have ax := C; have D : x = ((x.toNat : Nat) : Int) := by omega
  have a1 : IntKind.wrap .u8 x = ((x.toNat : Nat) : Int) := by rw [D, wrap8]; congr 1; omega
  have a2 : zs ++ [IntKind.wrap .u8 x] = (xs ++ qb4 (ns.take j)) ++ qch (ns.getD j 0).toNat := by rw [← E, qe1 (by omega), a1]
  refine qk (eS (qf (qe (nS ?_)))); refine q7 <| yq 3 <| yo (yB [uX (IntKind.wrap .u8 x)] 5 1 fun ay J az aA a3 K => ?_); have aB := zv (b := J) y; have a4 := y.ch K iZ; have a5 := F.step K iZ; refine yo (qaf 5 1 1 r c s (u8s zs) (some ⟨J, 0, none⟩) 1 1 [uX (IntKind.wrap .u8 x)] (some 27) (c + 1) rfl (u8s (zs ++ [(IntKind.wrap .u8 x)])) (by rw [u8s, u8s, List.map_append]; rfl) (by kernel_rfl) a4 (Rd.all a3) rfl rfl (fun h => by cases h) (by constructor <;> first | omega | (simp only [maxLen]; omega)) ?_); intro aC a6 a7 a8 a9 aD aa; have ab := a5.trans (App.of a9 aa); refine yq 6 <| yE (nB (nS ?_)); refine q7 <| yp 2 [] (.q6 (((j : Nat) : Int) + 1) .z) <| yE (fun a ha => M (j + 1, a6, (c + 1), a7) _ ⟨by omega, by rw [qmD (by omega), qkO, ← List.append_assoc, ← a2]; exact a8, ab, by omega⟩ (by show k - (j + 1) < k - j; omega) a (ha.kp [0, 7, 8, 9]))
 have aE := B; have ac : j = k := by omega
 refine qk (eS (qf (qe (nS ?_)))); refine yx 2 <| qd (yR1 (.slice (g.map at0) d m) ?_); exact ⟨_, _, _, rfl, by rw [ac, ← hk, List.take_length] at A; exact A, by omega, v⟩
theorem bN : ∀ x ∈ ([] : List Int), 0 ≤ x ∧ x ≤ 18446744073709551615 := fun x h => by cases h
theorem bC {x : Int} {l : List Int} (t : ∀ y ∈ l, 0 ≤ y ∧ y ≤ 18446744073709551615) (h : 0 ≤ x := by omega) (h' : x ≤ 18446744073709551615 := by omega) : ∀ y ∈ x :: l, 0 ≤ y ∧ y ≤ 18446744073709551615 := fun y hy => (List.mem_cons.1 hy).elim (fun e => e ▸ ⟨h, h'⟩) (t y)
theorem qdd {o : Option Nat} {n cap lb : Nat} {xs : List Int} {w : World} (k : Nat) (ns : List Int) (hO : Own w tU8 1 o n cap (u8s xs)) (hr : Rd w (some ⟨lb, 0, none⟩) (u64s ns)) (hv : ∀ x ∈ ns, 0 ≤ x ∧ x ≤ 18446744073709551615) (hlb : lb < w.heap.size) (hne : ∀ b, o = some b → ¬ b = lb) (hk : ns.length = k := by rfl) (hz : n + 10 * k ≤ 1000000000 := by omega) : Calls Tryz.prog 20 [.slice (o.map at0) n cap, .slice (some ⟨lb, 0, none⟩) k k].toArray w fun e w' =>
    ∃ o' n' cap', e = .returned (.slice (o'.map at0) n' cap') ∧ Own w' tU8 1 o' n' cap' (u8s (xs ++ qb4 ns)) ∧ n' ≤ n + 10 * k ∧ App w w' o o' := putV_any o n cap xs lb k ns w hO hr hk hv hlb hne hz
theorem rdr_len0 {us : List Int} {n : Nat} (h : us.length = n) (hk : ¬ (((qae us).2 : Nat) : Int) = 0) : n ≠ 0 := by
 rintro rfl; obtain rfl := List.eq_nil_of_length_eq_zero h; exact hk rfl
set_option maxHeartbeats 4000000 in
theorem qjI {rv D : Nat} {s0 s1 : RS} {lim x : Int} {w : World} (hA : RdrAt w rv D s0) (hN : qO lim s0 = (x, s1)) (hlim : lim ≤ 9223372036854775807) : Calls Tryz.prog 51 [pX rv, iX lim].toArray w fun e w' => e = .returned (iX x) ∧ RdrX w' rv D s1 ∧ Ch (· = rv) w w' := by
 obtain ⟨a, n, b, us, g, hI, rfl⟩ := hA; refine yA Tryz.func51 rfl <| yx 1 <| ysr <| yp 4 [] (.l (hI.blk.c 0) .z) <| yo (yQ (take_any a n b us _ hI.rd hI.len (hI.z.imp (fun h => h.1) (fun h => ⟨_, h⟩)) hI.byt hI.big) fun G u => ?_); have f : Ch (· = rv) w G := zt (Ch.refl (· = rv) w) u eZ; have d := hI.blk.ch u id; refine yz 10 <| ys <| ysr <| yp 5 [] (.l (d.c 1) .z) <| yw [19] (rY g) (fun k => ?_) fun k => ?_
 ·have H := k; refine yz 22 <| yct <| ysr <| yq 3 <| yo (yT [.slice a n b, .bool true] d fun I J K => ?_); have v : Ch (· = rv) w I := zt f K iZ; refine ye <| yx 1 <| qd (rS (yR1 (iX 0) ?_)); subst H; rw [numR_bad] at hN; obtain ⟨rfl, rfl⟩ := Prod.mk.inj hN; exact ⟨rfl, hI.spoil v J, v⟩
 have y := k; refine yq 9 <| yw [23] (rE (((qae us).2 : Nat) : Int) 0) (fun m => ?_) fun m => ?_
 ·have a1 := m; refine yz 22 <| yct <| ysr <| yq 3 <| yo (yT [.slice a n b, .bool true] d fun L M N => ?_); have A : Ch (· = rv) w L := zt f N iZ; refine ye <| yx 1 <| qd (rS (yR1 (iX 0) ?_)); rw [qiN (.inl (by omega))] at hN; obtain ⟨rfl, rfl⟩ := Prod.mk.inj hN; exact ⟨rfl, hI.spoil A M, A⟩
 have O := m; have o := (takeN_le hI.byt).1; rw [hI.len] at o; obtain ⟨ao, rfl⟩ := hI.some (rdr_len0 hI.len O); refine yq 13 <| yw [27] (rL 9223372036854775807 (((qae us).1 : Nat) : Int)) (fun r => ?_) fun r => ?_
 ·have a2 := r; refine yz 22 <| yct <| ysr <| yq 3 <| yo (yT [.slice (some ⟨D, ao, none⟩) n b, .bool true] d fun P Q R => ?_); have B : Ch (· = rv) w P := zt f R iZ; refine ye <| yx 1 <| qd (rS (yR1 (iX 0) ?_)); rw [qiN (.inr (.inl (by omega)))] at hN; obtain ⟨rfl, rfl⟩ := Prod.mk.inj hN; exact ⟨rfl, hI.spoil B Q, B⟩
 have a3 := r; refine yq 16 <| yw [30] (rL 0 lim) (fun s => ?_) fun s => ?_
 ·have a4 := s; refine yp 22 [18] (.p (q := InR .u64 lim) (qaD (by omega) (by omega)) .z) <| ye <| yc (rM lim (((qae us).1 : Nat) : Int)) (fun t => ?_) fun t => ?_
  ·have a5 := t; refine ysr <| yq 3 <| yo (yT [.slice (some ⟨D, ao, none⟩) n b, .bool true] d fun S T U => ?_); have C : Ch (· = rv) w S := zt f U iZ; refine ye <| yx 1 <| qd (rS (yR1 (iX 0) ?_)); rw [qiN (.inr (.inr ⟨by omega, by omega⟩))] at hN; obtain ⟨rfl, rfl⟩ := Prod.mk.inj hN; exact ⟨rfl, hI.spoil C T, C⟩
  have a6 := t; refine yk <| ysr <| yp 9 [] (.l (d.c 0) (.j (((qae us).2 : Nat) : Int) (n) .z)) <| yo (yT [.slice (some ⟨D, (if b = ((((qae us).2 : Nat) : Int) : Int).toNat then ao else ao + ((((qae us).2 : Nat) : Int) : Int).toNat * 1), none⟩) (n - ((((qae us).2 : Nat) : Int) : Int).toNat) (b - ((((qae us).2 : Nat) : Int) : Int).toNat), .bool g] d fun V W X => ?_); have E : Ch (· = rv) w V := zt f X iZ; refine ye <| ysr <| yp 3 [] (.q6 (((qae us).1 : Nat) : Int) .z) <| ye <| qd (yR1 (iX (((qae us).1 : Nat) : Int)) ?_); obtain rfl : g = false := y; rw [qjH (by omega) (by omega) (by omega)] at hN; obtain ⟨rfl, rfl⟩ := Prod.mk.inj hN; have i := W; rw [Int.toNat_natCast] at i; exact ⟨rfl, hI.drop _ o E i, E⟩
 have a7 := s; refine yz 22 <| ycf <| yk <| ysr <| yp 9 [] (.l (d.c 0) (.j (((qae us).2 : Nat) : Int) (n) .z)) <| yo (yT [.slice (some ⟨D, (if b = ((((qae us).2 : Nat) : Int) : Int).toNat then ao else ao + ((((qae us).2 : Nat) : Int) : Int).toNat * 1), none⟩) (n - ((((qae us).2 : Nat) : Int) : Int).toNat) (b - ((((qae us).2 : Nat) : Int) : Int).toNat), .bool g] d fun Y Z a0 => ?_); have F : Ch (· = rv) w Y := zt f a0 iZ; refine ye <| ysr <| yp 3 [] (.q6 (((qae us).1 : Nat) : Int) .z) <| ye <| qd (yR1 (iX (((qae us).1 : Nat) : Int)) ?_); obtain rfl : g = false := y; rw [qjH (by omega) (by omega) (by omega)] at hN; obtain ⟨rfl, rfl⟩ := Prod.mk.inj hN; have i := Z; rw [Int.toNat_natCast] at i; exact ⟨rfl, hI.drop _ o F i, F⟩
theorem qW {rv D : Nat} {s0 s1 : RS} {lim x : Int} {w : World} (hA : RdrAt w rv D s0) (hN : qO lim s0 = (x, s1)) (hlim : lim ≤ 9223372036854775807) : Calls Tryz.prog 51 [pX rv, iX lim].toArray w fun e w' => e = .returned (iX x) ∧ RdrAt w' rv D s1 ∧ Ch (· = rv) w w' := (qjI hA hN hlim).mono fun _ _ h => ⟨h.1, h.2.1.at, h.2.2⟩
set_option maxHeartbeats 4000000 in
theorem qjJ {rv D : Nat} {s0 : RS} {w : World} (hA : RdrAt w rv D s0) : Calls Tryz.prog 52 [pX rv].toArray w fun e w' => e = .returned (.bool s0.isSome) ∧ Ch (fun _ => False) w w' := by
 obtain ⟨a, n, d, us, b, hI, rfl⟩ := hA; refine yA Tryz.func52 rfl <| yx 1 <| ysr <| yp 6 [] (.l (hI.blk.c 1) .z) <| ye <| qd (yR1 (.bool (!b)) ?_); refine ⟨zc ?_, (Ch.refl _ _)⟩; unfold rsOf; cases b <;> rfl
set_option maxHeartbeats 4000000 in
theorem done_any {rv D : Nat} {s0 : RS} {w : World} (hA : RdrAt w rv D s0) : Calls Tryz.prog 38 [pX rv].toArray w fun e w' => e = .returned (.bool (decide (s0 = some []))) ∧ Ch (fun _ => False) w w' := by
 obtain ⟨a, n, g, us, b, hI, rfl⟩ := hA; refine yA Tryz.func38 rfl <| yx 1 <| ysr <| yp 6 [] (.l (hI.blk.c 1) .z) <| yw [8] (rN (rY b)) (fun d => ?_) fun d => ?_
 ·refine yp 14 [] (.l (hI.blk.c 0) .z) <| ye <| qd (yR1 (.bool ((((n : Nat) : Int) : Int) == 0)) ?_); refine ⟨zc ?_, (Ch.refl _ _)⟩; have f := hI.len; unfold rsOf; cases b <;> cases us <;> simp_all <;> omega
 refine yz 14 <| qd (yR1 (.bool false) ?_); refine ⟨zc ?_, (Ch.refl _ _)⟩; have f := hI.len; unfold rsOf; cases b <;> cases us <;> simp_all <;> omega
set_option maxHeartbeats 4000000 in
theorem of_any (D : Nat) (a : Option Addr) (n cap : Nat) (us : List Int) (w : World) (hr : Rd w a (u8s us)) (hl : us.length = n) (hle : n ≤ cap) (hz : (n = 0 ∧ cap = 0) ∨ ∃ o, a = some ⟨D, o, none⟩) (hb : qfq us) (hn : n ≤ 1000000) (hD : D < w.heap.size) : Calls Tryz.prog 31 [.slice a n cap].toArray w fun e w' => ∃ rv, e = .returned (pX rv) ∧ w.heap.size ≤ rv ∧ RdrAt w' rv D (some us) ∧ Ch (fun _ => False) w w' := by
 refine yA Tryz.func31 rfl <| yx 1 <| ysr <| yq 2 <| yo (yN [.slice a n cap, .bool false] 102 fun h d f i c g => ?_); have j := zn f (zm w); have b := zu (zm w) g iZ; refine yz 4 <| qd (yR1 (pX d) ?_); exact ⟨_, rfl, by have := c.lt; have := zs (Up.ch b); omega, ⟨a, n, cap, us, false, ⟨c, hr.ch (Up.ch b) iZ, hl, hle, hz, hb, by omega, hn, Nat.lt_of_lt_of_le hD (zs (Up.ch b))⟩, rfl⟩, Up.ch b⟩
theorem rd_front {w : World} {a : Option Addr} {xs ys : List Value} (h : Rd w a (xs ++ ys)) : Rd w a xs :=
  ⟨fun e => (List.append_eq_nil_iff.1 (h.1 e)).1, fun ad e j u hj => h.2 ad e j u (by rw [List.getElem?_append_left (List.getElem?_eq_some_iff.1 hj).1]; exact hj)⟩
set_option maxHeartbeats 4000000 in
theorem qcO {rv D : Nat} {s0 s1 : RS} {most : Int} {x : ByteArray} {w : World} (hA : RdrAt w rv D s0) (hX : qaW most s0 = (x, s1)) (hm : 0 < most ∧ most ≤ 1000000) : Calls Tryz.prog 36 [pX rv, iX most].toArray w fun e w' => e = .returned (.string x) ∧ RdrAt w' rv D s1 ∧ Ch (· = rv) w w' := by
 obtain ⟨k, S⟩ := hm; refine yA Tryz.func36 rfl <| yx 1 <| yx 1 <| ys <| yx 2 <| yc (rL 0 most) (fun m => ?_) fun m => ?_
 ·have T := m; refine q7 <| yp 3 [] (.q6 (most + 1) .z) <| ye <| ysr <| yq 2 ?_; obtain ⟨a, U, f⟩ : ∃ x s', qO ((most + 1)) s0 = (x, s') := ⟨_, _, rfl⟩
  have u := qa3 (lim := (most + 1)) (s := s0); rw [f] at u; dsimp only at u; refine yo (yQ (qjI (lim := (most + 1)) hA f (by omega)) ?_); rintro v ⟨E, F⟩; have n : Ch (· = rv) w v := zt (Ch.refl (· = rv) w) F iZ; obtain ⟨y, g, d, vs, i, b, o, G⟩ := E; refine yz 4 <| ys <| ysr <| yp 5 [] (.l (b.blk.c 1) .z) <| yw [19] (rY i) (fun p => ?_) fun p => ?_
  ·have H := p; refine yz 13 <| yct <| ysr <| yq 3 <| yo (yT [.slice y g d, .bool true] b.blk fun I J A => ?_); have K : Ch (· = rv) w I := zt n A iZ; refine ye <| yx 1 <| qd (rS (yR1 (oX) ?_)); unfold qaW at hX; rw [if_pos k, f] at hX; obtain rfl : i = true := H; rw [o] at hX; obtain ⟨rfl, rfl⟩ := Prod.mk.inj hX; exact ⟨rfl, (b.spoil (A) J).at, K⟩
  have q := p; refine yp 13 [] (.l (b.blk.c 0) .z) <| ye <| yc (rL ((g : Nat) : Int) a) (fun r => ?_) fun r => ?_
  ·have V := r; refine ysr <| yq 3 <| yo (yT [.slice y g d, .bool true] b.blk fun L M B => ?_); have N : Ch (· = rv) w L := zt n B iZ; refine ye <| yx 1 <| qd (rS (yR1 (oX) ?_)); unfold qaW at hX; rw [if_pos k, f] at hX; have t : i = false := q; rw [o, t] at hX; have hX : (if (vs.length : Int) < a then (E0, none) else (qq (vs.take (a : Int).toNat), some (vs.drop (a : Int).toNat))) = (x, s1) := hX; rw [if_pos (by rw [b.len]; omega)] at hX; obtain ⟨rfl, rfl⟩ := Prod.mk.inj hX; exact ⟨rfl, (b.spoil (B) M).at, N⟩
  have W := r; have X := b.len; have Y := b.le; obtain ⟨ao, rfl⟩ := G.resolve_left (fun h => absurd (q.symm.trans h) (by decide)); refine id ?_; refine yk <| ysr <| yp 6 [] (.l (b.blk.c 0) (.j a (d) .z)) ?_; have O : Rd v (some ⟨D, ao, none⟩) ((vs.take (a : Int).toNat).map (Value.int .u8)) := by
   have h := b.rd; rw [u8s, ← List.take_append_drop (a : Int).toNat vs, List.map_append] at h; exact rd_front h
  refine yo (qbQ (some ⟨D, ao, none⟩) (a : Int).toNat d (vs.take (a : Int).toNat) (some 37) (by kernel_rfl) O (by rw [List.length_take]; omega) ?_); refine yz 8 <| ysr <| yp 9 [] (.l (b.blk.c 0) (.j a (g) .z)) <| yo (yT [.slice (some ⟨D, (if d = (a : Int).toNat then ao else ao + (a : Int).toNat * 1), none⟩) (g - (a : Int).toNat) (d - (a : Int).toNat), .bool i] b.blk fun P Q C => ?_); have R : Ch (· = rv) w P := zt n C iZ; refine ye <| yx 2 <| qd (yR1 (.string (qq (vs.take (a : Int).toNat))) ?_); unfold qaW at hX; rw [if_pos k, f] at hX; have t : i = false := q; subst t; rw [o] at hX; have hX : (if (vs.length : Int) < a then (E0, none) else (qq (vs.take (a : Int).toNat), some (vs.drop (a : Int).toNat))) = (x, s1) := hX; rw [if_neg (by rw [b.len]; omega)] at hX; obtain ⟨rfl, rfl⟩ := Prod.mk.inj hX; exact ⟨rfl, (b.drop _ (by omega) C Q).at, R⟩
 have Z := m; exfalso; omega
theorem app_bytV (xs : List Int) (x : ByteArray) : u8s xs ++ qeg x = u8s (xs ++ qaM x) := by
 unfold u8s qeg qaM; rw [List.map_append, List.map_map]; rfl
theorem qi5 (x : Int) : qb4 [x] = qch x.toNat := by simp [qb4]
set_option maxHeartbeats 4000000 in
theorem qaz {o : Option Nat} {n cap : Nat} {xs : List Int} {w : World} (hO : Own w tU8 1 o n cap (u8s xs)) (x : ByteArray) (hz : n + 10 + x.size ≤ 1000000000) : Calls Tryz.prog 25 [.slice (o.map at0) n cap, .string x].toArray w fun e w' => ∃ o' n' cap', e = .returned (.slice (o'.map at0) n' cap') ∧ Own w' tU8 1 o' n' cap' (u8s (xs ++ qhV x)) ∧ n' ≤ n + (10 + x.size) ∧ App w w' o o' := by
 refine yA Tryz.func25 rfl <| yx 1 <| ysr <| yp 4 [3] (.p (q := InR .u64 ((x).size : Int)) (qaD (by omega) (by omega)) .z) <| yo (yB [.int .u64 ((x).size : Int)] 61 1 fun D k E F a g => ?_); have c := zv (b := k) hO; have l := hO.ch g iZ; have m := (App.refl w o).step g iZ; refine yo (yC (qdd 1 [((x).size : Int)] l (Rd.all a) (bC bN) a.lt c) ?_); rintro _ G ⟨r, d, s, rfl, t, H, f⟩; refine ⟨_, rfl, ?_⟩; have u := f.apart a.lt c; have v := m.trans f; have y := a.ch f.ch (fun h => c _ h rfl); refine yq 7 ?_; refine yo (e_appS 5 r d s (u8s (xs ++ qb4 [((x).size : Int)])) x (some 12) (d + (x).size) rfl (by kernel_rfl) t (by constructor <;> first | omega | (simp only [maxLen]; omega)) ?_); intro I A B i j; rw [app_bytV] at i; have J := j.apart y.lt u; have C := v.trans j; refine yz 9 <| qd (yR1 (.slice (A.map at0) (d + (x).size) B) ?_); exact ⟨_, _, _, rfl, by have h := i; rw [qi5, Int.toNat_natCast, List.append_assoc] at h; exact h, by omega, C⟩
def qf8 (s : Sty) : Int :=
  let n0 := ql .or .u64 s.fore (IntKind.wrap .u64 (s.back * 2 ^ min (4 : Int).toNat (IntKind.bits .u64)))
  let n1 := if s.bold = true then ql .or .u64 n0 256 else n0
  let n2 := if s.under = true then ql .or .u64 n1 512 else n1
  if s.turned = true then ql .or .u64 n2 1024 else n2
theorem qmE : ∀ f, f < 9 → ∀ k, k < 9 → ∀ a b c : Bool, qf8 ⟨a, b, c, ((f : Nat) : Int), ((k : Nat) : Int)⟩ = ((qe3 ⟨a, b, c, ((f : Nat) : Int), ((k : Nat) : Int)⟩ : Nat) : Int) := by decide +kernel
theorem bitsG_eq {s : Sty} (h : qA s = true) : qf8 s = ((qe3 s : Nat) : Int) := by
 obtain ⟨a, b, c, f, k⟩ := s; simp only [qA, Bool.and_eq_true, decide_eq_true_eq] at h; obtain ⟨f, rfl⟩ : ∃ n : Nat, f = (n : Int) := ⟨f.toNat, by omega⟩
 obtain ⟨k, rfl⟩ : ∃ n : Nat, k = (n : Int) := ⟨k.toNat, by omega⟩
 exact qmE f (by omega) k (by omega) a b c
theorem qcP {s : Sty} {v : Int} (h : qA s = true) (e : qf8 s = v) : v = ((qe3 s : Nat) : Int) := e.symm.trans (bitsG_eq h)
theorem style_bd {s : Sty} (h : qA s = true) : (0 ≤ s.fore ∧ s.fore ≤ 8) ∧ 0 ≤ s.back ∧ s.back ≤ 8 := by
 simp only [qA, Bool.and_eq_true, decide_eq_true_eq] at h; omega
set_option maxHeartbeats 4000000 in
theorem bits_any (sx : Sty) (hs : qA sx = true) (w : World) : Calls Tryz.prog 63 [.agg #[.bool sx.bold, .bool sx.under, .bool sx.turned, iX sx.fore, iX sx.back]].toArray w fun e w' => e = .returned (.int .u64 ((qe3 sx : Nat) : Int)) ∧ Ch (fun _ => False) w w' := by
 have G := style_bd hs; refine yA Tryz.func63 rfl <| ysr <| yo (yN [.bool sx.bold, .bool sx.under, .bool sx.turned, iX sx.fore, iX sx.back] 44 fun H I u J b v => ?_); have K := zn u (zm w); have a := zu (zm w) v iZ; refine yz 2 <| ysr <| yp 9 [2, 5] (.l (b.c 3) (.p (q := InR .u64 sx.fore) (qaD (by omega) (by omega)) (.l (b.c 4) (.p (q := InR .u64 sx.back) (qaD (by omega) (by omega)) (.p (q := 0 ≤ (4 : Int)) (by omega) .z))))) <| ye <| ys <| ysr <| yp 8 [] (.l (b.c 0) (.l (b.c 1) (.l (b.c 2) .z))) <| ye <| q8 <| yU 4 (yU1 ?_); refine yx 1 <| ys <| yct <| yk <| ys <| q8 <| yx 4 <| yx 1 <| yc (rY sx.bold) (fun g => ?_) fun g => ?_
 ·have d := g; refine q7 <| yp 5 [] (.p (q := 0 ≤ (0 : Int)) (by omega) .z) <| yE (nB (nS ?_)); refine q7 <| yp 2 [] (.q6 1 .z) <| yE (nU (yU1 ?_)); refine yx 1 <| ys <| yct <| yk <| ys <| q8 <| yx 4 <| yx 1 <| yc (rY sx.under) (fun h => ?_) fun h => ?_
  ·have o := h; refine q7 <| yp 5 [] (.p (q := 0 ≤ (1 : Int)) (by omega) .z) <| yE (nB (nS ?_)); refine q7 <| yp 2 [] (.q6 2 .z) <| yE (nU (yU1 ?_)); refine yx 1 <| ys <| yct <| yk <| ys <| q8 <| yx 4 <| yx 1 <| yc (rY sx.turned) (fun i => ?_) fun i => ?_
   ·have x := i; refine q7 <| yp 5 [] (.p (q := 0 ≤ (2 : Int)) (by omega) .z) <| yE (nB (nS ?_)); refine q7 <| yp 2 [] (.q6 3 .z) <| yE (nU (yU1 ?_)); refine yx 1 <| ys <| ycf <| qk (eS (qf (qe (nS ?_)))); refine yx 2 <| qd (yR1 (.int .u64 (ql .or .u64 (ql .or .u64 (ql .or .u64 (ql .or .u64 sx.fore (IntKind.wrap .u64 (sx.back * 2 ^ min (4 : Int).toNat (IntKind.bits .u64)))) 256) 512) 1024)) ?_); refine ⟨congrArg Ending.returned (congrArg (Value.int .u64) ?_), Up.ch a⟩; refine qcP hs ?_; unfold qf8; simp only [d, o, x, Bool.false_eq_true, ↓reduceIte]
   have y := i; refine qp (nB (nS ?_)); refine q7 <| yp 2 [] (.q6 3 .z) <| yE (nU (yU1 ?_)); refine yx 1 <| ys <| ycf <| qk (eS (qf (qe (nS ?_)))); refine yx 2 <| qd (yR1 (.int .u64 (ql .or .u64 (ql .or .u64 (ql .or .u64 sx.fore (IntKind.wrap .u64 (sx.back * 2 ^ min (4 : Int).toNat (IntKind.bits .u64)))) 256) 512)) ?_); refine ⟨congrArg Ending.returned (congrArg (Value.int .u64) ?_), Up.ch a⟩; refine qcP hs ?_; unfold qf8; simp only [d, o, y, Bool.false_eq_true, ↓reduceIte]
  have r := h; refine qp (nB (nS ?_)); refine q7 <| yp 2 [] (.q6 2 .z) <| yE (nU (yU1 ?_)); refine yx 1 <| ys <| yct <| yk <| ys <| q8 <| yx 4 <| yx 1 <| yc (rY sx.turned) (fun j => ?_) fun j => ?_
  ·have A := j; refine q7 <| yp 5 [] (.p (q := 0 ≤ (2 : Int)) (by omega) .z) <| yE (nB (nS ?_)); refine q7 <| yp 2 [] (.q6 3 .z) <| yE (nU (yU1 ?_)); refine yx 1 <| ys <| ycf <| qk (eS (qf (qe (nS ?_)))); refine yx 2 <| qd (yR1 (.int .u64 (ql .or .u64 (ql .or .u64 (ql .or .u64 sx.fore (IntKind.wrap .u64 (sx.back * 2 ^ min (4 : Int).toNat (IntKind.bits .u64)))) 256) 1024)) ?_); refine ⟨congrArg Ending.returned (congrArg (Value.int .u64) ?_), Up.ch a⟩; refine qcP hs ?_; unfold qf8; simp only [d, r, A, Bool.false_eq_true, ↓reduceIte]
  have B := j; refine qp (nB (nS ?_)); refine q7 <| yp 2 [] (.q6 3 .z) <| yE (nU (yU1 ?_)); refine yx 1 <| ys <| ycf <| qk (eS (qf (qe (nS ?_)))); refine yx 2 <| qd (yR1 (.int .u64 (ql .or .u64 (ql .or .u64 sx.fore (IntKind.wrap .u64 (sx.back * 2 ^ min (4 : Int).toNat (IntKind.bits .u64)))) 256)) ?_); refine ⟨congrArg Ending.returned (congrArg (Value.int .u64) ?_), Up.ch a⟩; refine qcP hs ?_; unfold qf8; simp only [d, r, B, Bool.false_eq_true, ↓reduceIte]
 have f := g; refine qp (nB (nS ?_)); refine q7 <| yp 2 [] (.q6 1 .z) <| yE (nU (yU1 ?_)); refine yx 1 <| ys <| yct <| yk <| ys <| q8 <| yx 4 <| yx 1 <| yc (rY sx.under) (fun k => ?_) fun k => ?_
 ·have s := k; refine q7 <| yp 5 [] (.p (q := 0 ≤ (1 : Int)) (by omega) .z) <| yE (nB (nS ?_)); refine q7 <| yp 2 [] (.q6 2 .z) <| yE (nU (yU1 ?_)); refine yx 1 <| ys <| yct <| yk <| ys <| q8 <| yx 4 <| yx 1 <| yc (rY sx.turned) (fun m => ?_) fun m => ?_
  ·have C := m; refine q7 <| yp 5 [] (.p (q := 0 ≤ (2 : Int)) (by omega) .z) <| yE (nB (nS ?_)); refine q7 <| yp 2 [] (.q6 3 .z) <| yE (nU (yU1 ?_)); refine yx 1 <| ys <| ycf <| qk (eS (qf (qe (nS ?_)))); refine yx 2 <| qd (yR1 (.int .u64 (ql .or .u64 (ql .or .u64 (ql .or .u64 sx.fore (IntKind.wrap .u64 (sx.back * 2 ^ min (4 : Int).toNat (IntKind.bits .u64)))) 512) 1024)) ?_); refine ⟨congrArg Ending.returned (congrArg (Value.int .u64) ?_), Up.ch a⟩; refine qcP hs ?_; unfold qf8; simp only [f, s, C, Bool.false_eq_true, ↓reduceIte]
  have D := m; refine qp (nB (nS ?_)); refine q7 <| yp 2 [] (.q6 3 .z) <| yE (nU (yU1 ?_)); refine yx 1 <| ys <| ycf <| qk (eS (qf (qe (nS ?_)))); refine yx 2 <| qd (yR1 (.int .u64 (ql .or .u64 (ql .or .u64 sx.fore (IntKind.wrap .u64 (sx.back * 2 ^ min (4 : Int).toNat (IntKind.bits .u64)))) 512)) ?_); refine ⟨congrArg Ending.returned (congrArg (Value.int .u64) ?_), Up.ch a⟩; refine qcP hs ?_; unfold qf8; simp only [f, s, D, Bool.false_eq_true, ↓reduceIte]
 have t := k; refine qp (nB (nS ?_)); refine q7 <| yp 2 [] (.q6 2 .z) <| yE (nU (yU1 ?_)); refine yx 1 <| ys <| yct <| yk <| ys <| q8 <| yx 4 <| yx 1 <| yc (rY sx.turned) (fun n => ?_) fun n => ?_
 ·have E := n; refine q7 <| yp 5 [] (.p (q := 0 ≤ (2 : Int)) (by omega) .z) <| yE (nB (nS ?_)); refine q7 <| yp 2 [] (.q6 3 .z) <| yE (nU (yU1 ?_)); refine yx 1 <| ys <| ycf <| qk (eS (qf (qe (nS ?_)))); refine yx 2 <| qd (yR1 (.int .u64 (ql .or .u64 (ql .or .u64 sx.fore (IntKind.wrap .u64 (sx.back * 2 ^ min (4 : Int).toNat (IntKind.bits .u64)))) 1024)) ?_); refine ⟨congrArg Ending.returned (congrArg (Value.int .u64) ?_), Up.ch a⟩; refine qcP hs ?_; unfold qf8; simp only [f, t, E, Bool.false_eq_true, ↓reduceIte]
 have F := n; refine qp (nB (nS ?_)); refine q7 <| yp 2 [] (.q6 3 .z) <| yE (nU (yU1 ?_)); refine yx 1 <| ys <| ycf <| qk (eS (qf (qe (nS ?_)))); refine yx 2 <| qd (yR1 (.int .u64 (ql .or .u64 sx.fore (IntKind.wrap .u64 (sx.back * 2 ^ min (4 : Int).toNat (IntKind.bits .u64))))) ?_); refine ⟨congrArg Ending.returned (congrArg (Value.int .u64) ?_), Up.ch a⟩; refine qcP hs ?_; unfold qf8; simp only [f, t, F, Bool.false_eq_true, ↓reduceIte]
set_option maxHeartbeats 4000000 in
theorem qcQ {o : Option Nat} {n cap : Nat} {xs : List Int} {w : World} (hO : Own w tU8 1 o n cap (u8s xs)) (sx : Sty) (hs : qA sx = true) (hz : n + 10 ≤ 1000000000) : Calls Tryz.prog 49 [.slice (o.map at0) n cap, .agg #[.bool sx.bold, .bool sx.under, .bool sx.turned, iX sx.fore, iX sx.back]].toArray w fun e w' => ∃ o' n' cap', e = .returned (.slice (o'.map at0) n' cap') ∧ Own w' tU8 1 o' n' cap' (u8s (xs ++ qch (qe3 sx))) ∧ n' ≤ n + 10 ∧ App w w' o o' := by
 have F := qjD hs; refine yA Tryz.func49 rfl <| ysr <| yo (yN [.bool sx.bold, .bool sx.under, .bool sx.turned, iX sx.fore, iX sx.back] 44 fun G m H I i j => ?_); have p := zv (b := m) hO; have q := hO.ch j iZ; have r := (App.refl w o).step j iZ; refine yz 2 <| ysr <| yp 2 [] (.a (i.cs 0 5) .z) <| yo (yQ (bits_any sx hs _) fun J c => ?_); have k := q.ch c iZ; have s := r.step c iZ; have t := i.ch c id; refine yo (yB [.int .u64 ((qe3 sx : Nat) : Int)] 61 1 fun K u L M d f => ?_); have l := zv (b := u) k; have v := k.ch f iZ; have x := s.step f iZ; have y := t.ch f id; refine yo (yC (qdd 1 [((qe3 sx : Nat) : Int)] v (Rd.all d) (bC bN) d.lt l) ?_); rintro _ N ⟨A, B, C, rfl, D, O, g⟩; refine ⟨_, rfl, ?_⟩; have P := g.apart y.lt p; have Q := g.apart d.lt l; have E := x.trans g; refine yz 6 <| qd (yR1 (.slice (A.map at0) B C) ?_); exact ⟨_, _, _, rfl, by have h := D; rw [qi5, Int.toNat_natCast] at h; exact h, by omega, E⟩
def styG (x : Int) : Sty := ⟨decide (0 < ql .and .i64 x 256), decide (0 < ql .and .i64 x 512), decide (0 < ql .and .i64 x 1024), ql .and .i64 x 15, ql .and .i64 (Int.fdiv x (2 ^ min (4 : Int).toNat (IntKind.bits .i64))) 15⟩
set_option maxRecDepth 100000 in
theorem styG_all : ∀ n, n < 2048 → styG ((n : Nat) : Int) = qmu n := by decide +kernel
theorem qiO {s s1 : RS} {x : Int} (h : qO 2048 s = (x, s1)) : qfr s = if (s1.isSome && qA (styG x)) = true then (styG x, true, s1) else (qc0, false, s1) := by
 have hb := qa3 (lim := 2048) (s := s); rw [h] at hb; dsimp only at hb; have a := hb.2.2 (by decide); have e : styG x = qmu x.toNat := by
  have := styG_all x.toNat (by omega); rwa [Int.toNat_of_nonneg hb.1] at this
 unfold qfr; rw [h, e]
theorem qjK {l : List Cel} {c : Cel} {i k : Nat} (hik : i ≤ k) (hk : k ≤ l.length) (h : ∀ j : Nat, i ≤ j → j < k → gc l (j : Int) = c) : l.drop i = List.replicate (k - i) c ++ l.drop k := by
 apply List.ext_getElem?; intro j; rw [List.getElem?_drop, List.getElem?_append, List.length_replicate]; split
 ·rename_i hj; rw [List.getElem?_replicate, if_pos hj, List.getElem?_eq_getElem (by omega), ← qcI (by omega), h (i + j) (by omega) (by omega)]
 rename_i hj; rw [List.getElem?_drop]; congr 1; omega
theorem qi6 (x y : Int) : qb4 [x, y] = qch x.toNat ++ qch y.toNat := by simp [qb4]
theorem qmF {l : List Cel} {k : Nat} (h : k < l.length) : (l.drop k).head? = some (gc l (k : Int)) := by
 rw [List.head?_drop, List.getElem?_eq_getElem h, qcI h]
set_option maxHeartbeats 4000000 in
theorem qdK {rv D : Nat} {s0 s1 : RS} {t : Sty} {ok : Bool} {w : World} (hA : RdrAt w rv D s0) (hS : qfr s0 = (t, ok, s1)) : Calls Tryz.prog 53 [pX rv].toArray w fun e w' => e = .returned (.tuple #[.agg #[.bool t.bold, .bool t.under, .bool t.turned, iX t.fore, iX t.back], .bool ok]) ∧ RdrAt w' rv D s1 ∧ Ch (· = rv) w w' := by
 refine yA Tryz.func53 rfl <| ysr <| yo (yN [.bool false, .bool false, .bool false, iX 0, iX 0] 44 fun P c Q am R v => ?_); have S : Ch (· = rv) w P := zt (Ch.refl (· = rv) w) v eZ; have d : w.heap.size ≤ c := by rw [Q]; exact zs (Ch.refl (· = rv) w)
 have T := hA.ch v id id; refine yz 2 <| ysr <| yq 1 ?_; obtain ⟨b, U, f⟩ : ∃ x s', qO (2048) s0 = (x, s') := ⟨_, _, rfl⟩
 have y := qa3 (lim := 2048) (s := s0); rw [f] at y; dsimp only at y; refine yo (yQ (qW (lim := 2048) T f (by omega)) ?_); rintro V ⟨W, A⟩; have B : Ch (· = rv) w V := zt S A iZ; have C := R.ch A (fun (h : c = rv) => by have := d; have := hA.lt; omega); refine yz 3 <| ysr <| yp 15 [] (.p (q := 0 ≤ (4 : Int)) (by omega) .z) <| yo (yN [.bool false, .bool false, .bool false, iX 0, iX 0] 44 fun X g Y an Z m => ?_); have a0 : Ch (· = rv) w X := zt B m eZ; have n := zn Y B; have a1 := C.ch m id; have a2 := W.ch m id id; refine yo (yT [.bool (decide (0 < (ql .and .i64 b 256))), .bool (decide (0 < (ql .and .i64 b 512))), .bool (decide (0 < (ql .and .i64 b 1024))), iX (ql .and .i64 b 15), iX (ql .and .i64 (Int.fdiv b (2 ^ min (4 : Int).toNat (IntKind.bits .i64))) 15)] Z fun a3 a4 o => ?_); have a5 : Ch (· = rv) w a3 := zt a0 o (fun i hi (h : i = g) => by have := n; omega); have a6 := a1.ch o (fun (h : c = g) => by have := C.lt; omega); have E := a2.ch o (fun (h : rv = g) => by have := n; have := hA.lt; omega) (fun (h : D = g) => by have := n; have := hA.dlt; omega); refine ye <| ys <| ysr <| yq 1 <| yo (yQ (qjJ E) fun a7 j => ?_); have F : Ch (· = rv) w a7 := zt a5 j eZ; have G := a6.ch j id; have H := E.ch j id id; have I := a4.ch j id; refine yq 4 <| yw [26] (rN (rY U.isSome)) (fun k => ?_) fun k => ?_
 ·refine yz 8 <| yct <| ysr <| yq 1 <| yo (yT [.bool false, .bool false, .bool false, iX 0, iX 0] G fun a8 a9 J => ?_); have aa : Ch (· = rv) w a8 := zt F J (fun i hi (h : i = c) => by have := d; omega); have ab := H.ch J (fun (h : rv = c) => by have := d; have := hA.lt; omega) (fun (h : D = c) => by have := d; have := hA.dlt; omega); refine yz 3 <| qd (rS (yR2 [.agg #[.bool false, .bool false, .bool false, iX 0, iX 0], .bool false] (.a (a9.cs 0 5) .z) ?_)); rw [qiO f] at hS; rw [if_neg (by rw [k]; simp)] at hS; simp only [Prod.mk.injEq] at hS; obtain ⟨rfl, rfl, rfl⟩ := hS; exact ⟨rfl, ab, aa⟩
 refine yp 5 [] (.a (I.cs 0 5) .z) <| yo (yQ (qhj ⟨(decide (0 < (ql .and .i64 b 256))), (decide (0 < (ql .and .i64 b 512))), (decide (0 < (ql .and .i64 b 1024))), (ql .and .i64 b 15), (ql .and .i64 (Int.fdiv b (2 ^ min (4 : Int).toNat (IntKind.bits .i64))) 15)⟩ _) fun ac l => ?_); have K : Ch (· = rv) w ac := zt F l eZ; have L := G.ch l id; have M := H.ch l id id; have ad := I.ch l id; refine yz 8 <| yc (rN (rY (qA ⟨(decide (0 < (ql .and .i64 b 256))), (decide (0 < (ql .and .i64 b 512))), (decide (0 < (ql .and .i64 b 1024))), (ql .and .i64 b 15), (ql .and .i64 (Int.fdiv b (2 ^ min (4 : Int).toNat (IntKind.bits .i64))) 15)⟩))) (fun r => ?_) fun r => ?_
 ·have u : qA (styG b) = false := r; refine ysr <| yq 1 <| yo (yT [.bool false, .bool false, .bool false, iX 0, iX 0] L fun ae af N => ?_); have ag : Ch (· = rv) w ae := zt K N (fun i hi (h : i = c) => by have := d; omega); have ah := M.ch N (fun (h : rv = c) => by have := d; have := hA.lt; omega) (fun (h : D = c) => by have := d; have := hA.dlt; omega); refine yz 3 <| qd (rS (yR2 [.agg #[.bool false, .bool false, .bool false, iX 0, iX 0], .bool false] (.a (af.cs 0 5) .z) ?_)); rw [qiO f] at hS; rw [if_neg (by rw [k, u]; decide)] at hS; simp only [Prod.mk.injEq] at hS; obtain ⟨rfl, rfl, rfl⟩ := hS; exact ⟨rfl, ah, ag⟩
 have u : qA (styG b) = true := r; refine yk <| ysr <| yp 1 [] (.a (ad.cs 0 5) .z) <| yo (yT [.bool (decide (0 < (ql .and .i64 b 256))), .bool (decide (0 < (ql .and .i64 b 512))), .bool (decide (0 < (ql .and .i64 b 1024))), iX (ql .and .i64 b 15), iX (ql .and .i64 (Int.fdiv b (2 ^ min (4 : Int).toNat (IntKind.bits .i64))) 15)] L fun ai aj O => ?_); have ak : Ch (· = rv) w ai := zt K O (fun i hi (h : i = c) => by have := d; omega); have al := M.ch O (fun (h : rv = c) => by have := d; have := hA.lt; omega) (fun (h : D = c) => by have := d; have := hA.dlt; omega); refine yz 3 <| qd (yR2 [.agg #[.bool (decide (0 < (ql .and .i64 b 256))), .bool (decide (0 < (ql .and .i64 b 512))), .bool (decide (0 < (ql .and .i64 b 1024))), iX (ql .and .i64 b 15), iX (ql .and .i64 (Int.fdiv b (2 ^ min (4 : Int).toNat (IntKind.bits .i64))) 15)], .bool true] (.a (aj.cs 0 5) .z) ?_); rw [qiO f] at hS; rw [if_pos (by rw [k, u]; rfl)] at hS; simp only [Prod.mk.injEq] at hS; obtain ⟨rfl, rfl, rfl⟩ := hS; exact ⟨rfl, al, ak⟩
set_option maxHeartbeats 4000000 in
theorem qde {o : Option Nat} {n cap : Nat} {xs : List Int} {w : World} (hO : Own w tU8 1 o n cap (u8s xs)) (lb ln lc : Nat) (l : List Cel) (hr : Rd w (some ⟨lb, 0, none⟩) (qX l)) (hlb : lb < w.heap.size) (hne : ∀ b, o = some b → ¬ b = lb) (hln : l.length = ln) (hcs : ∀ c ∈ l, cOk c) (hz : n + 30 * ln ≤ 1000000000) : Calls Tryz.prog 23 [.slice (o.map at0) n cap, .slice (some ⟨lb, 0, none⟩) ln lc].toArray w fun e w' => ∃ o' n' cap', e = .returned (.slice (o'.map at0) n' cap') ∧ Own w' tU8 1 o' n' cap' (u8s (xs ++ qaS l)) ∧ n' ≤ n + 30 * ln ∧ App w w' o o' := by
 refine yA Tryz.func23 rfl <| yx 1 <| ys <| yx 1 <| q8 <| qN [0, 1, 5] (f' := [(0, .slice (o.map at0) n cap), (1, .slice (some ⟨lb, 0, none⟩) ln lc), (5, iX 0)]) <| qw (σ := Nat × List Int × Option Nat × Nat × Nat) (fun ⟨i, ws, g, r, s⟩ => [(0, .slice (g.map at0) r s), (1, .slice (some ⟨lb, 0, none⟩) ln lc), (5, iX ((i : Nat) : Int))]) (fun ⟨i, ws, g, r, s⟩ u => i ≤ ln ∧ ws ++ qaS (l.drop i) = qaS l ∧ Own u tU8 1 g r s (u8s (xs ++ ws)) ∧ App w u o g ∧ r ≤ n + 30 * i) (fun ⟨i, ws, g, r, s⟩ => ln - i) (0, [], o, n, cap) rfl ?_ ?_
 ·exact ⟨Nat.zero_le _, rfl, by rw [List.append_nil]; exact hO, App.refl _ _, Nat.le_refl _⟩
 intro p ac ad aP V; obtain ⟨i, ws, g, r, s⟩ := p; obtain ⟨hi, B, H, C, aQ⟩ := ad; have ae := Ch.rd C.ch hr (fun h => hne _ h rfl); have d := C.apart hlb hne; refine ys <| yx 4 <| yc (rL ((i : Nat) : Int) ((ln : Nat) : Int)) (fun af => ?_) fun af => ?_
 ·have ag := hcs _ (gc_mem (l := l) (i := i) (by omega)); obtain ⟨W, aR, aS⟩ := ag; refine yk <| q8 <| yx 2 <| ys <| q8 <| qN [0, 1, 5, 6] (f' := [(0, .slice (g.map at0) r s), (1, .slice (some ⟨lb, 0, none⟩) ln lc), (5, iX ((i : Nat) : Int)), (6, iX ((i : Nat) : Int))]) <| qw (σ := Nat) (fun k => [(0, .slice (g.map at0) r s), (1, .slice (some ⟨lb, 0, none⟩) ln lc), (5, iX ((i : Nat) : Int)), (6, iX ((k : Nat) : Int))]) (fun k u => i ≤ k ∧ k ≤ ln ∧ (∀ j : Nat, i ≤ j → j < k → gc l (j : Int) = gc l ((i : Nat) : Int)) ∧ Ch (fun _ => False) ac u) (fun k => ln - k) i rfl ?_ ?_
  ·exact ⟨Nat.le_refl _, hi, fun j X h2 => by omega, Ch.refl _ _⟩
  intro k aT ai aU aj; obtain ⟨ak, aV, I, D⟩ := ai; have al := H.ch D iZ; have am := C.step D iZ; have an := Ch.rd D ae id; refine ys <| ys <| yD [] fun aW aX E => ?_; have ao := zt D E iZ; have Y := al.ch E iZ; have Z := am.step E iZ; have f := Ch.rd E an id; refine yd (uL 0 5) [] .z <| yv [16] (rL ((k : Nat) : Int) ((ln : Nat) : Int)) (fun ap => ?_) fun ap => ?_
  ·refine yd (uL 5 10) [] (.i ((k : Nat) : Int) (ln) (.m (qc1 (i := ((k : Nat) : Int)) f (by omega) (by omega)) (.m (qc2 (i := ((k : Nat) : Int)) f (by omega) (by omega)) (.m (qb9 (i := ((k : Nat) : Int)) f (by omega) (by omega)) (.m (qaA (i := ((k : Nat) : Int)) f (by omega) (by omega)) (.m (qc3 (i := ((k : Nat) : Int)) f (by omega) (by omega)) (.m (qc4 (i := ((k : Nat) : Int)) f (by omega) (by omega)) (.e (.i ((i : Nat) : Int) (ln) (.m (qc1 (i := ((i : Nat) : Int)) f (by omega) (by omega)) (.m (qc2 (i := ((i : Nat) : Int)) f (by omega) (by omega)) (.m (qb9 (i := ((i : Nat) : Int)) f (by omega) (by omega)) (.m (qaA (i := ((i : Nat) : Int)) f (by omega) (by omega)) (.m (qc3 (i := ((i : Nat) : Int)) f (by omega) (by omega)) (.m (qc4 (i := ((i : Nat) : Int)) f (by omega) (by omega)) (.e .z)))))))))))))))) <| yDe (nS ?_); refine yc (rY ((((gc l ((k : Nat) : Int)).rune : Int) == (gc l ((i : Nat) : Int)).rune) && ((((gc l ((k : Nat) : Int)).sty.bold == (gc l ((i : Nat) : Int)).sty.bold) && (((gc l ((k : Nat) : Int)).sty.under == (gc l ((i : Nat) : Int)).sty.under) && (((gc l ((k : Nat) : Int)).sty.turned == (gc l ((i : Nat) : Int)).sty.turned) && ((((gc l ((k : Nat) : Int)).sty.fore : Int) == (gc l ((i : Nat) : Int)).sty.fore) && ((((gc l ((k : Nat) : Int)).sty.back : Int) == (gc l ((i : Nat) : Int)).sty.back) && true))))) && true))) (fun t => ?_) fun t => ?_
   ·rw [qcH] at t; have aq := eq_of_beq t; refine yk <| q8 <| q7 <| yp 3 [] (.q6 (((k : Nat) : Int) + 1) .z) <| yE (nB  (fun a ha => aj (k + 1) _ ⟨by omega, by omega, fun j X h2 => (Nat.lt_or_ge j k).elim (I j X) (fun h3 => by rw [show j = k by omega]; exact aq), ao⟩ (by show ln - (k + 1) < ln - k; omega) a (ha.kp [0, 1, 5, 6])))
   rw [qcH] at t; have J : (l.drop k).head? ≠ some (gc l ((i : Nat) : Int)) := by rw [qmF (by omega)]; intro e; rw [zi e] at t; simp at t
   have ar : i < k := by
    rcases Nat.eq_or_lt_of_le ak with e | e
    ·subst e; simp at t
    exact e
   refine qk (eS (qf (qe (nS ?_)))); refine ys <| qY (fun b => g = some b) [18] (by kernel_rfl) (fun aZ b0 K => ?_); have a0 := Y.ch K iZ; have au := Z.step K iZ; have v := Ch.rd K f id; refine ydC [0, 1, 2, 3, 4, 5, 6, 7, 8, 9, 10, 13, 14, 15, 16, 17] [4, 10] (fun u hu => (.q6 (((k : Nat) : Int) - ((i : Nat) : Int)) (.p (q := InR .u64 (((k : Nat) : Int) - ((i : Nat) : Int))) (qaD (by omega) (by omega)) (.i ((i : Nat) : Int) (ln) (.l (qg hu (qc1 (i := ((i : Nat) : Int)) v (by omega) (by omega)) (fun h => d _ h rfl)) (.p (q := InR .u64 (gc l ((i : Nat) : Int)).rune) (qaD (by omega) (by omega)) (.i ((i : Nat) : Int) (ln) (.m (qg hu (qc2 (i := ((i : Nat) : Int)) v (by omega) (by omega)) (fun h => d _ h rfl)) (.m (qg hu (qb9 (i := ((i : Nat) : Int)) v (by omega) (by omega)) (fun h => d _ h rfl)) (.m (qg hu (qaA (i := ((i : Nat) : Int)) v (by omega) (by omega)) (fun h => d _ h rfl)) (.m (qg hu (qc3 (i := ((i : Nat) : Int)) v (by omega) (by omega)) (fun h => d _ h rfl)) (.m (qg hu (qc4 (i := ((i : Nat) : Int)) v (by omega) (by omega)) (fun h => d _ h rfl)) (.e .z))))))))))))) <| yH 11 (yB [.int .u64 (((k : Nat) : Int) - ((i : Nat) : Int)), .int .u64 (gc l ((i : Nat) : Int)).rune] 61 2 fun b1 av b2 b3 F L => ?_); have M := zv (b := av) a0; have aw := a0.ch L iZ; have a1 := au.step L iZ; refine qo L eZ <| yH 12 (yC (qdd 2 [(((k : Nat) : Int) - ((i : Nat) : Int)), (gc l ((i : Nat) : Int)).rune] aw (Rd.all F) (bC (bC bN)) F.lt M) ?_)
   rintro _ b4 ⟨b5, b6, b7, rfl, ax, b8, y⟩; refine ⟨_, rfl, ?_⟩; have ay := y.apart (Nat.lt_of_lt_of_le hlb a1.ch.size) d; have az := y.apart F.lt M; have a2 := a1.trans y; have aA := F.ch y.ch (fun h => M _ h rfl); refine qo y.ch iZ <| yK 18 (yC (qcQ ax (gc l ((i : Nat) : Int)).sty W (by omega)) ?_); rintro _ aB ⟨a3, a4, a5, rfl, aC, b9, N⟩; refine ⟨_, rfl, ?_⟩; have ba := N.apart (Nat.lt_of_lt_of_le hlb a2.ch.size) ay; have bb := N.apart aA.lt az; have aD := a2.trans N; refine q9 <| yd [19] [] .z <| yDe (nS ?_); refine q7 <| yq 2 ?_; have O : (((k : Nat) : Int) - ((i : Nat) : Int) : Int).toNat = k - i := by omega
   have P : (ws ++ qel (k - i) (gc l ((i : Nat) : Int))) ++ qaS (l.drop k) = qaS l := by
    rw [← B, qjK (c := (gc l ((i : Nat) : Int))) (by omega) (by omega) I, show k - i = (k - i - 1) + 1 by omega, qhZ J, List.append_assoc]
   have Q : Own aB tU8 1 a3 a4 a5 (u8s (xs ++ (ws ++ qel (k - i) (gc l ((i : Nat) : Int))))) := by
    have h := aC; rw [qi6, O] at h; unfold qel; simp only [List.append_assoc] at h ⊢; exact h
   refine yE (nB  (fun a ha => V (k, ws ++ qel (k - i) (gc l ((i : Nat) : Int)), a3, a4, a5) _ ⟨by omega, P, Q, aD, by omega⟩ (by show ln - k < ln - i; omega) a (ha.kp [0, 1, 5])))
  have J : (l.drop k).head? ≠ some (gc l ((i : Nat) : Int)) := by rw [List.drop_eq_nil_of_le (by omega)]; simp
  have ar : i < k := by omega
  refine yd (uL 5 10) [] .z <| yDe (nS ?_); refine ycf <| qk (eS (qf (qe (nS ?_)))); refine ys <| qY (fun b => g = some b) [18] (by kernel_rfl) (fun bc bd R => ?_); have a6 := Y.ch R iZ; have aE := Z.step R iZ; have x := Ch.rd R f id; refine ydC [0, 1, 2, 3, 4, 5, 6, 7, 8, 9, 10, 13, 14, 15, 16, 17] [4, 10] (fun u hu => (.q6 (((k : Nat) : Int) - ((i : Nat) : Int)) (.p (q := InR .u64 (((k : Nat) : Int) - ((i : Nat) : Int))) (qaD (by omega) (by omega)) (.i ((i : Nat) : Int) (ln) (.l (qg hu (qc1 (i := ((i : Nat) : Int)) x (by omega) (by omega)) (fun h => d _ h rfl)) (.p (q := InR .u64 (gc l ((i : Nat) : Int)).rune) (qaD (by omega) (by omega)) (.i ((i : Nat) : Int) (ln) (.m (qg hu (qc2 (i := ((i : Nat) : Int)) x (by omega) (by omega)) (fun h => d _ h rfl)) (.m (qg hu (qb9 (i := ((i : Nat) : Int)) x (by omega) (by omega)) (fun h => d _ h rfl)) (.m (qg hu (qaA (i := ((i : Nat) : Int)) x (by omega) (by omega)) (fun h => d _ h rfl)) (.m (qg hu (qc3 (i := ((i : Nat) : Int)) x (by omega) (by omega)) (fun h => d _ h rfl)) (.m (qg hu (qc4 (i := ((i : Nat) : Int)) x (by omega) (by omega)) (fun h => d _ h rfl)) (.e .z))))))))))))) <| yH 11 (yB [.int .u64 (((k : Nat) : Int) - ((i : Nat) : Int)), .int .u64 (gc l ((i : Nat) : Int)).rune] 61 2 fun bf aF bg bh G S => ?_); have T := zv (b := aF) a6; have aG := a6.ch S iZ; have a7 := aE.step S iZ; refine qo S eZ <| yH 12 (yC (qdd 2 [(((k : Nat) : Int) - ((i : Nat) : Int)), (gc l ((i : Nat) : Int)).rune] aG (Rd.all G) (bC (bC bN)) G.lt T) ?_)
  rintro _ bi ⟨bj, bk, bl, rfl, aH, bm, A⟩; refine ⟨_, rfl, ?_⟩; have aI := A.apart (Nat.lt_of_lt_of_le hlb a7.ch.size) d; have aJ := A.apart G.lt T; have a8 := a7.trans A; have aK := G.ch A.ch (fun h => T _ h rfl); refine qo A.ch iZ <| yK 18 (yC (qcQ aH (gc l ((i : Nat) : Int)).sty W (by omega)) ?_); rintro _ aL ⟨a9, aa, ab, rfl, aM, bn, U⟩; refine ⟨_, rfl, ?_⟩; have bo := U.apart (Nat.lt_of_lt_of_le hlb a8.ch.size) aI; have bp := U.apart aK.lt aJ; have aN := a8.trans U; refine q9 <| yd [19] [] .z <| yDe (nS ?_); refine q7 <| yq 2 ?_; have O : (((k : Nat) : Int) - ((i : Nat) : Int) : Int).toNat = k - i := by omega
  have P : (ws ++ qel (k - i) (gc l ((i : Nat) : Int))) ++ qaS (l.drop k) = qaS l := by
   rw [← B, qjK (c := (gc l ((i : Nat) : Int))) (by omega) (by omega) I, show k - i = (k - i - 1) + 1 by omega, qhZ J, List.append_assoc]
  have Q : Own aL tU8 1 a9 aa ab (u8s (xs ++ (ws ++ qel (k - i) (gc l ((i : Nat) : Int))))) := by
   have h := aM; rw [qi6, O] at h; unfold qel; simp only [List.append_assoc] at h ⊢; exact h
  refine yE (nB  (fun a ha => V (k, ws ++ qel (k - i) (gc l ((i : Nat) : Int)), a9, aa, ab) _ ⟨by omega, P, Q, aN, by omega⟩ (by show ln - k < ln - i; omega) a (ha.kp [0, 1, 5])))
 refine qk (eS (qf (qe (nS ?_)))); refine yx 2 <| qd (yR1 (.slice (g.map at0) r s) ?_); rw [List.drop_eq_nil_of_le (by omega)] at B; have aO : ws = qaS l := by rw [← B]; exact (List.append_nil _).symm
 rw [aO] at H; exact ⟨_, _, _, rfl, H, by omega, C⟩
def okAt (l : List Cel) (i : Nat) : Prop := ((gc l (i : Int)).rune = 0 → qP l ((i : Int) - 1) = true) ∧ ((gc l (i : Int)).rune ≠ 0 → qis (gc l (i : Int)) = true ∧ (qat (gc l (i : Int)).rune = true → qP l (i : Int) = true))
theorem qiP {l : List Cel} {k : Nat} (h : ∀ i : Nat, i < k → okAt l i) (hb : okAt l k) : ∀ i : Nat, i < k + 1 → okAt l i := fun i hi => by
  rcases Nat.lt_or_ge i k with h' | h'
  · exact h i h'
  · obtain rfl : i = k := by omega
    exact hb
set_option maxHeartbeats 4000000 in
theorem qmG (b n cap : Nat) (l : List Cel) (w : World) (hT : qa4 w) (hr : Rd w (some ⟨b, 0, none⟩) (qX l)) (hb : b < w.heap.size) (hln : l.length = n) (hnb : n ≤ 1000000) : Calls Tryz.prog 66 [.slice (some ⟨b, 0, none⟩) n cap].toArray w fun e w' => e = .returned (.bool (qbo l)) ∧ Ch (fun _ => False) w w' := by
 refine yA Tryz.func66 rfl <| yx 1 <| ys <| yx 3 <| q8 <| qN [0, 5, 6, 7] (f' := [(0, .slice (some ⟨b, 0, none⟩) n cap), (5, .slice (some ⟨b, 0, none⟩) n cap), (6, iX ((n : Nat) : Int)), (7, iX 0)]) <| qw (σ := Nat) (fun k => [(0, .slice (some ⟨b, 0, none⟩) n cap), (5, .slice (some ⟨b, 0, none⟩) n cap), (6, iX ((n : Nat) : Int)), (7, iX ((k : Nat) : Int))]) (fun k u => k ≤ n ∧ (∀ i : Nat, i < k → okAt l i) ∧ Ch (fun _ => False) w u) (fun k => n - k) 0 rfl ?_ ?_
 ·exact ⟨Nat.zero_le _, fun i hi => absurd hi (Nat.not_lt_zero i), Ch.refl _ _⟩
 intro k ae R af x; obtain ⟨hk, d, g⟩ := R; have r := zu (zm w) g iZ; have S := qh g hT id id; have f := Ch.rd g hr id; refine yx 1 <| ys <| yc (rL ((k : Nat) : Int) ((n : Nat) : Int)) (fun T => ?_) fun T => ?_
 ·refine yk <| ys <| q8 <| ysr <| yp 3 [] (.i ((k : Nat) : Int) (n) (.m (qc1 (i := ((k : Nat) : Int)) f (by omega) (by omega)) (.m (qc2 (i := ((k : Nat) : Int)) f (by omega) (by omega)) (.m (qb9 (i := ((k : Nat) : Int)) f (by omega) (by omega)) (.m (qaA (i := ((k : Nat) : Int)) f (by omega) (by omega)) (.m (qc3 (i := ((k : Nat) : Int)) f (by omega) (by omega)) (.m (qc4 (i := ((k : Nat) : Int)) f (by omega) (by omega)) (.e .z)))))))) <| yo (yN [rX 0, .bool false, .bool false, .bool false, iX 0, iX 0] 95 fun ag j G ah U s => ?_); have ai := zn G r; have aj := zn G g; have V := zu r s iZ; have W := zt g s eZ; have X := qh s S id id; have Y := Ch.rd s f id; refine yq 5 <| yo (yT [rX (gc l ((k : Nat) : Int)).rune, .bool (gc l ((k : Nat) : Int)).sty.bold, .bool (gc l ((k : Nat) : Int)).sty.under, .bool (gc l ((k : Nat) : Int)).sty.turned, iX (gc l ((k : Nat) : Int)).sty.fore, iX (gc l ((k : Nat) : Int)).sty.back] U fun ak y t => ?_); have A := zu V t (fun i hi (h : i = j) => by omega); have H := zt W t (fun i hi (h : i = j) => by omega); have I := qh t X (fun (h : qcj = j) => by have := qbv hT; omega) (fun (h : qaY = j) => by have := qbv hT; omega); have J := Ch.rd t Y (fun (h : b = j) => by have := (Nat.lt_of_lt_of_le hb (zs r)); omega); refine ye <| q8 <| ysr <| yp 4 [] (.l (y.c 0) .z) <| ye <| yc (rE (gc l ((k : Nat) : Int)).rune 0) (fun B => ?_) fun B => ?_
  ·have Z := B; refine ysr <| yp 3 [] (.q6 (((k : Nat) : Int) - 1) .z) ?_; refine yo (yQ (qc5 b n cap l (((k : Nat) : Int) - 1) _ I J (Nat.lt_of_lt_of_le hb (zs A)) hln (by omega) (by constructor <;> omega)) fun al K => ?_); have a0 := zu A K iZ; have a1 := zt H K eZ; refine yz 5 <| yc (rN (rY (qP l (((k : Nat) : Int) - 1)))) (fun C => ?_) fun C => ?_
   ·have a2 := C; refine yx 1 <| qd (rB (rB (rS (qy (rB (rS (yR1 (.bool false) ?_))))))); refine ⟨zc ?_, Up.ch a0⟩; exact (Bool.eq_false_iff.2 fun h => by
     have o := wholeB_iff.1 h k (by omega); clear h d; simp [Z, a2] at o).symm
   have am := C; refine qp (nB (nB (nS ?_))); refine q7 <| yp 2 [] (.q6 (((k : Nat) : Int) + 1) .z) <| yE (fun a ha => x (k + 1) _ ⟨by omega, qiP d ⟨fun p => by simp_all, fun p => by simp_all⟩, a1⟩ (by show n - (k + 1) < n - k; omega) a (ha.kp [0, 5, 6, 7]))
  have L := B; refine ysr <| yp 1 [] (.a (y.cs 0 6) .z) <| yo (yQ (qjc (gc l ((k : Nat) : Int)) _ ) fun an q => ?_); have M := zu A q iZ; have a3 := zt H q eZ; have N := qh q I id id; have a4 := Ch.rd q J id; have a5 := y.ch q id; refine yq 4 <| yw [25] (rN (rY (qis (gc l ((k : Nat) : Int))))) (fun D => ?_) fun D => ?_
  ·have a6 := D; refine yz 15 <| yct <| yx 1 <| qd (rB (rB (rS (qy (rB (rS (yR1 (.bool false) ?_))))))); refine ⟨zc ?_, Up.ch M⟩; exact (Bool.eq_false_iff.2 fun h => by
    have o := wholeB_iff.1 h k (by omega); clear h d; simp [L, a6] at o).symm
  have a7 := D; refine yp 6 [] (.l (a5.c 0) .z) <| yo (yQ (qbc (gc l ((k : Nat) : Int)).rune _ N.1) fun ao hq => ?_); have v := qbz hq; clear hq; have O := zu M v iZ; have P := zt a3 v eZ; have a8 := qh v N id id; have a9 := Ch.rd v a4 id; refine yq 8 <| yw [29] (rY (qat (gc l ((k : Nat) : Int)).rune)) (fun E => ?_) fun E => ?_
  ·have aa := E; refine yq 10 ?_; refine yo (yQ (qc5 b n cap l ((k : Nat) : Int) _ a8 a9 (Nat.lt_of_lt_of_le hb (zs O)) hln (by omega) (by constructor <;> omega)) fun ap Q => ?_); have ab := zu O Q iZ; have ac := zt P Q eZ; refine yz 15 <| yc (rN (rY (qP l ((k : Nat) : Int)))) (fun F => ?_) fun F => ?_
   ·have ad := F; refine yx 1 <| qd (rB (rB (rS (qy (rB (rS (yR1 (.bool false) ?_))))))); refine ⟨zc ?_, Up.ch ab⟩; exact (Bool.eq_false_iff.2 fun h => by
     have o := wholeB_iff.1 h k (by omega); clear h d; simp [L, a7, aa, ad] at o).symm
   have aq := F; refine qp (nB (nB (nS ?_))); refine q7 <| yp 2 [] (.q6 (((k : Nat) : Int) + 1) .z) <| yE (fun a ha => x (k + 1) _ ⟨by omega, qiP d ⟨fun p => by simp_all, fun p => by simp_all⟩, ac⟩ (by show n - (k + 1) < n - k; omega) a (ha.kp [0, 5, 6, 7]))
  have ar := E; refine yz 15 <| ycf <| qp (nB (nB (nS ?_))); refine q7 <| yp 2 [] (.q6 (((k : Nat) : Int) + 1) .z) <| yE (fun a ha => x (k + 1) _ ⟨by omega, qiP d ⟨fun p => by simp_all, fun p => by simp_all⟩, P⟩ (by show n - (k + 1) < n - k; omega) a (ha.kp [0, 5, 6, 7]))
 have au : k = n := by omega
 refine qk (eS (qf (qe (nS ?_)))); refine yx 1 <| qd (yR1 (.bool true) ?_); refine ⟨zc ?_, Up.ch r⟩; exact (wholeB_iff.2 fun i hi => d i (by omega)).symm
theorem qmH {w : World} {a : Option Addr} {n : Nat} {ro : List Row} {FB : Nat → Prop} (hz : a = none ∨ ∃ b off, a = some ⟨b, off, none⟩) (h : LinesAt w a n ro FB) (hn : 0 < n) : ∃ b off, a = some ⟨b, off, none⟩ := by
 rcases hz with rfl | hz
 ·have e := h.rd.1 rfl; have := h.len; rw [List.map_eq_nil_iff] at e; subst e; simp at this; omega
 exact hz
theorem qf9 {w : World} {b off : Nat} {rows : List Row} (h : Rd w (some ⟨b, off, none⟩) (rows.map Row.val)) {k : Nat} {x : Row} (hx : rows[k]? = some x) : w.cell? ⟨b, off + ((k : Nat) : Int).toNat * 1, none⟩ = some x.val := by
 rw [Int.toNat_natCast, Nat.mul_one]; exact qbs h k _ (by rw [List.getElem?_map, hx]; rfl)
theorem qi7 (l : List Cel) (c : Cel) : qX l ++ c.vals = qX (l ++ [c]) := by rw [qbd, qX, qX]; simp
theorem qmI {l : List Cel} {n : Nat} (hn : l.length = n) (h : 0 < n) : l.getLast? = some (gc l ((n : Int) - 1)) := by
 rw [List.getLast?_eq_getElem?, List.getElem?_eq_getElem (by omega), show ((n : Int) - 1) = ((l.length - 1 : Nat) : Int) by omega, qcI (by omega)]
theorem qcf {w : World} {e : TypeId} {sz : Nat} {o : Option Nat} {n cap : Nat} {xs : List Value} (h : Own w e sz o n cap xs) (hn : 0 < n) : ∃ b, o = some b := by
 cases o with
 | none => have := (h.2.2.2.1 rfl).1; omega
 | some b => exact ⟨b, rfl⟩
theorem qiQ {W : Int} {s0 s s' : RS} {f : Nat} {l : List Cel} (h : qbF f W l s = qbF W.toNat W [] s0) (e : qbF f W l s = (none, s')) : qdc W s0 = ([], false, s') := by
 unfold qdc; rw [← h, e]
theorem qh0 {W : Int} {s0 s s' : RS} {f : Nat} {l o : List Cel} (h : qbF f W l s = qbF W.toNat W [] s0) (e : qbF f W l s = (some o, s')) : qdc W s0 = if qbo o = true then (o, true, s') else ([], false, s') := by
 unfold qdc; rw [← h, e]
set_option maxHeartbeats 4000000 in
theorem qmJ (w : World) : Calls Tryz.prog 66 [nX].toArray w fun e w' => e = .returned (.bool (qbo [])) ∧ Ch (fun _ => False) w w' := by
 refine yA Tryz.func66 rfl <| yx 1 <| ys <| yx 3 <| q8 <| yU 1 (yU1 ?_); refine yx 1 <| ys <| ycf <| qk (eS (qf (qe (nS ?_)))); refine yx 1 <| qd (yR1 (.bool true) ?_); exact ⟨rfl, Up.ch (zm w)⟩
theorem qjL {α : Type} {b : Bool} {x y : α} (h : b = false) : (if b = true then x else y) = y := by rw [h]; rfl
set_option maxHeartbeats 4000000 in
theorem qi8 {rv D : Nat} {s0 s1 : RS} {W : Int} {l : List Cel} {ok : Bool} {w : World} (hA : RdrAt w rv D s0) (hT : qa4 w) (h7 : gTop ≤ rv) (hW : 0 ≤ W ∧ W ≤ 1000) (hL : qdc W s0 = (l, ok, s1)) : Calls Tryz.prog 54 [pX rv, iX W].toArray w fun e w' =>
 ∃ o n cap, e = .returned (.tuple #[.slice (o.map at0) n cap, .bool ok]) ∧ l.length = n ∧ Own w' qcy 6 o n cap (qX l) ∧ (∀ b, o = some b → w.heap.size ≤ b) ∧ RdrAt w' rv D s1 ∧ Ch (· = rv) w w' := by
 refine yA Tryz.func54 rfl <| yx 2 <| yx 1 <| ys <| q8 <| qN [0, 1, 6] (f' := [(0, pX rv), (1, iX W), (6, nX)]) <| qw (σ := List Cel × RS × Option Nat × Nat × Nat) (fun ⟨l, s, o, n, cap⟩ => [(0, pX rv), (1, iX W), (6, .slice (o.map at0) n cap)]) (fun ⟨l, s, o, n, cap⟩ u => (∃ f, W.toNat - l.length ≤ f ∧ qbF f W l s = qbF W.toNat W [] s0) ∧ l.length = n ∧ (n : Int) ≤ W ∧ Own u qcy 6 o n cap (qX l) ∧ (∀ b, o = some b → w.heap.size ≤ b) ∧ RdrAt u rv D s ∧ Ch (· = rv) w u) (fun ⟨l, s, o, n, cap⟩ => W.toNat - l.length) ([], s0, none, 0, 0) rfl ?_ ?_
 ·exact ⟨⟨W.toNat, by simp, rfl⟩, rfl, by omega, Own.nil _ _ _, (fun b e => by cases e), hA, Ch.refl _ _⟩
 intro p c9 aL ca ak; obtain ⟨l, s, o, n, cap⟩ := p; obtain ⟨⟨f, hf, A⟩, C, cb, hO, G, a7, T⟩ := aL; have cc : n ≤ cap := hO.2.1; refine ys <| yx 4 <| yc (rL ((n : Nat) : Int) W) (fun aM => ?_) fun aM => ?_
 ·refine yk <| q8 <| ysr <| yp 6 [] (.q6 (W - ((n : Nat) : Int)) (.q6 ((W - ((n : Nat) : Int)) + 1) .z)) ?_; obtain ⟨k, al, H⟩ : ∃ x s', qO (((W - ((n : Nat) : Int)) + 1)) s = (x, s') := ⟨_, _, rfl⟩
  have am := qa3 (lim := ((W - ((n : Nat) : Int)) + 1)) (s := s); rw [H] at am; dsimp only at am; refine yo (yQ (qW (lim := ((W - ((n : Nat) : Int)) + 1)) a7 H (by omega)) ?_); rintro aN ⟨aO, an⟩; have aP : Ch (· = rv) w aN := zt T an iZ; have aQ := hO.ch an (fun b e (h : b = rv) => by have := G b e; have := hA.lt; omega); refine yq 8 ?_; obtain ⟨d, aR, I⟩ : ∃ x s', qO (1114112) al = (x, s') := ⟨_, _, rfl⟩
  have ao := qa3 (lim := 1114112) (s := al); rw [I] at ao; dsimp only at ao; refine yo (yQ (qW (lim := 1114112) aO I (by omega)) ?_); rintro aS ⟨aT, ap⟩; have aq : Ch (· = rv) w aS := zt aP ap iZ; have ar := aQ.ch ap (fun b e (h : b = rv) => by have := G b e; have := hA.lt; omega); refine yp 11 [] (.q3 d .z) <| yo (yN [rX 0, .bool false, .bool false, .bool false, iX 0, iX 0] 95 fun aU r aV cd aW a8 => ?_); have U := zv (b := r) ar; have aX : Ch (· = rv) w aU := zt aq a8 eZ; have J := zn aV aq; have aY := ar.ch a8 iZ; have aZ := aT.ch a8 id id; refine yq 13 <| yo (yT [rX d, .bool false, .bool false, .bool false, iX 0, iX 0] aW fun b0 b1 a9 => ?_); have b2 : Ch (· = rv) w b0 := zt aX a9 (fun i hi (h : i = r) => by have := J; omega); have b3 := aY.ch a9 (fun b e (h : b = r) => U b e h); have b4 := aZ.ch a9 (fun (h : rv = r) => by have := J; have := hA.lt; omega) (fun (h : D = r) => by have := J; have := hA.dlt; omega); refine ye <| ysr <| yq 1 ?_; obtain ⟨c, b5, V, M⟩ : ∃ t ok s', qfr aR = (t, ok, s') := ⟨_, _, _, rfl⟩
  refine yo (yQ (qdK b4 M) ?_); rintro b6 ⟨b7, aa⟩; have au : Ch (· = rv) w b6 := zt b2 aa iZ; have av := b3.ch aa (fun b e (h : b = rv) => by have := G b e; have := hA.lt; omega); have aw := b1.ch aa (fun (h : r = rv) => by have := J; have := hA.lt; omega); refine yq 5 <| yo (yN [.bool false, .bool false, .bool false, iX 0, iX 0] 44 fun b8 N b9 ce ba X => ?_); have bb := zv (b := N) av; have bc : Ch (· = rv) w b8 := zt au X eZ; have ab := zn b9 au; have bd := av.ch X iZ; have bf := aw.ch X id; have bg := b7.ch X id id; refine yo (yT [.bool c.bold, .bool c.under, .bool c.turned, iX c.fore, iX c.back] ba fun bh bi Y => ?_); have bj : Ch (· = rv) w bh := zt bc Y (fun i hi (h : i = N) => by have := ab; omega); have bk := bd.ch Y (fun b e (h : b = N) => bb b e h); have bl := bf.ch Y (fun (h : r = N) => by have := aw.lt; omega); have bm := bg.ch Y (fun (h : rv = N) => by have := ab; have := hA.lt; omega) (fun (h : D = N) => by have := ab; have := hA.dlt; omega); refine yz 8 <| ysr <| yp 2 [] (.a (bi.cs 0 5) .z) <| yo (yT [rX d, .bool c.bold, .bool c.under, .bool c.turned, iX c.fore, iX c.back] bl fun bn bo ac => ?_); have bp : Ch (· = rv) w bn := zt bj ac (fun i hi (h : i = r) => by have := J; omega); have bq := bk.ch ac (fun b e (h : b = r) => U b e h); have br := bm.ch ac (fun (h : rv = r) => by have := J; have := hA.lt; omega) (fun (h : D = r) => by have := J; have := hA.dlt; omega); refine ye <| ys <| ys <| yD [] fun bs cf Z => ?_; have O : Ch (· = rv) w bs := zt bp Z eZ
  have E := bq.ch Z iZ; have P := br.ch Z id id; have ad := bo.ch Z id; refine yd (uL 0 3) [] .z <| yv [35] (rN (rY b5)) (fun a0 => ?_) fun a0 => ?_
  ·refine yd (uL 3 18) [] .z <| yDe (nS ?_); refine yct <| yx 2 <| qd (rS (rB (qy (rB (rS (yR2 [nX, .bool false] .z ?_)))))); have hS := qcm (W := W) (out := l) (by rw [C]; exact H) I M; rw [if_pos (.inl a0)] at hS; have hR := qiQ A (qf2 (by omega) hf hS); rw [hL] at hR; simp only [Prod.mk.injEq] at hR; obtain ⟨rfl, rfl, rfl⟩ := hR; exact ⟨none, 0, 0, rfl, rfl, Own.nil _ _ _, (fun b e => by cases e), P, O⟩
  refine yd (uL 3 4) [] .z <| yv [39] (rE k 0) (fun a1 => ?_) fun a1 => ?_
  ·refine yd (uL 7 14) [] .z <| yDe (nS ?_); refine yct <| yx 2 <| qd (rS (rB (qy (rB (rS (yR2 [nX, .bool false] .z ?_)))))); have hS := qcm (W := W) (out := l) (by rw [C]; exact H) I M; rw [if_pos (.inr (.inl a1))] at hS; have hR := qiQ A (qf2 (by omega) hf hS); rw [hL] at hR; simp only [Prod.mk.injEq] at hR; obtain ⟨rfl, rfl, rfl⟩ := hR; exact ⟨none, 0, 0, rfl, rfl, Own.nil _ _ _, (fun b e => by cases e), P, O⟩
  refine yd (uL 7 4) [] .z <| yv [43] (rL 0 ((n : Nat) : Int)) (fun bt => ?_) fun bt => ?_
  ·obtain ⟨ob, rfl⟩ := qcf E (by omega); refine yd (uL 11 10) [] (.q6 (((n : Nat) : Int) - 1) (.i (((n : Nat) : Int) - 1) (n) (.m (qc1 (i := (((n : Nat) : Int) - 1)) (Own.rd E) (by omega) (by omega)) (.m (qc2 (i := (((n : Nat) : Int) - 1)) (Own.rd E) (by omega) (by omega)) (.m (qb9 (i := (((n : Nat) : Int) - 1)) (Own.rd E) (by omega) (by omega)) (.m (qaA (i := (((n : Nat) : Int) - 1)) (Own.rd E) (by omega) (by omega)) (.m (qc3 (i := (((n : Nat) : Int) - 1)) (Own.rd E) (by omega) (by omega)) (.m (qc4 (i := (((n : Nat) : Int) - 1)) (Own.rd E) (by omega) (by omega)) (.e (.a (ad.cs 0 6) .z)))))))))) <| yDe (nS ?_); refine yc (rY ((((gc l (((n : Nat) : Int) - 1)).rune : Int) == d) && ((((gc l (((n : Nat) : Int) - 1)).sty.bold == c.bold) && (((gc l (((n : Nat) : Int) - 1)).sty.under == c.under) && (((gc l (((n : Nat) : Int) - 1)).sty.turned == c.turned) && ((((gc l (((n : Nat) : Int) - 1)).sty.fore : Int) == c.fore) && ((((gc l (((n : Nat) : Int) - 1)).sty.back : Int) == c.back) && true))))) && true))) (fun ae => ?_) fun ae => ?_
   ·have a2 := (qcH (gc l (((n : Nat) : Int) - 1)) (Cel.mk d c)).symm.trans ae; refine yx 2 <| qd (rS (rB (qy (rB (rS (yR2 [nX, .bool false] .z ?_)))))); have hS := qcm (W := W) (out := l) (by rw [C]; exact H) I M; rw [if_pos (.inr (.inr (by rw [qmI C (by omega), eq_of_beq a2])))] at hS; have hR := qiQ A (qf2 (by omega) hf hS); rw [hL] at hR; simp only [Prod.mk.injEq] at hR; obtain ⟨rfl, rfl, rfl⟩ := hR; exact ⟨none, 0, 0, rfl, rfl, Own.nil _ _ _, (fun b e => by cases e), P, O⟩
   have a2 := (qcH (gc l (((n : Nat) : Int) - 1)) (Cel.mk d c)).symm.trans ae; refine yk <| yx 2 <| q8 ?_; have hS := qcm (W := W) (out := l) (by rw [C]; exact H) I M; rw [if_neg (by rintro (h | h | h); exact absurd (a0.symm.trans h) (by decide); exact a1 h; exact absurd h (by rw [qmI C (by omega)]; intro e; rw [zi e] at a2; simp at a2))] at hS; refine qN [0, 1, 6, 8, 54, 55] (f' := [(0, pX rv), (1, iX W), (6, .slice (some ⟨ob, 0, none⟩) n cap), (8, pX r), (54, iX k), (55, iX 0)]) <| qw (σ := Nat × Option Nat × Nat × Nat) (fun ⟨j, v, g, y⟩ => [(0, pX rv), (1, iX W), (6, .slice (v.map at0) g y), (8, pX r), (54, iX k), (55, iX ((j : Nat) : Int))]) (fun ⟨j, v, g, y⟩ u => (j : Int) ≤ k ∧ Own u qcy 6 v g y (qX (l ++ List.replicate j (Cel.mk d c))) ∧ g = n + j ∧ (∀ b, v = some b → w.heap.size ≤ b) ∧ (∀ b, v = some b → ¬ b = r) ∧ Blk u r [rX d, .bool c.bold, .bool c.under, .bool c.turned, iX c.fore, iX c.back] 95 ∧ RdrAt u rv D V ∧ Ch (· = rv) w u) (fun ⟨j, v, g, y⟩ => (k : Int).toNat - j) (0, (some ob), n, cap) rfl ?_ ?_
   ·exact ⟨by omega, by rw [List.replicate_zero, List.append_nil]; exact E, rfl, G, U, ad, P, O⟩
   intro q cg bu ci bv; obtain ⟨j, v, g, y⟩ := q; obtain ⟨bw, F, bx, B, Q, R, S, K⟩ := bu; have bz : g ≤ y := F.2.1; refine yx 1 <| ys <| yc (rL ((j : Nat) : Int) k) (fun af => ?_) fun af => ?_
   ·refine yk <| ys <| q8 <| q7 <| yp 2 [] (.a (R.cs 0 6) .z) <| yo (yB [rX d, .bool c.bold, .bool c.under, .bool c.turned, iX c.fore, iX c.back] 95 1 fun bA ax bB cj bC a3 => ?_); have ck := zv (b := ax) F; have ay : Ch (· = rv) w bA := zt K a3 eZ; have cl := zn bB K; have bD := F.ch a3 iZ; have bE := S.ch a3 id id; have az := R.ch a3 id; refine yo (qaf 95 6 32 v g y (qX (l ++ List.replicate j (Cel.mk d c))) (some ⟨ax, 0, none⟩) 1 1 [rX d, .bool c.bold, .bool c.under, .bool c.turned, iX c.fore, iX c.back] (some 60) (g + 1) rfl (qX ((l ++ List.replicate j (Cel.mk d c)) ++ [(Cel.mk d c)])) (qi7 (l ++ List.replicate j (Cel.mk d c)) (Cel.mk d c)) (by kernel_rfl) bD (Rd.all bC) rfl rfl (fun h => by cases h) (by constructor <;> first | omega | (simp only [maxLen]; omega)) ?_); intro bF aA bG bH aB cm a4; have bI : ∀ b, aA = some b → w.heap.size ≤ b := fun b e => by
     rcases aB with h | ⟨g', h, h'⟩
     ·exact B b (h ▸ e)
     rw [h] at e; have := zi e; have := zs ay; omega
    have bJ := App.of aB a4; have bK := bJ.apart az.lt Q; have bL : Ch (· = rv) w bF := zt ay a4 (fun i hi h => by have := B _ h; omega); have bM := bE.ch a4 (fun h => by have := B _ h; have := hA.lt; omega) (fun h => by have := B _ h; have := hA.dlt; omega); have bN := az.ch a4 (fun h => Q _ h rfl); refine yq 5 <| yE (nB (nS ?_)); refine q7 <| yp 2 [] (.q6 (((j : Nat) : Int) + 1) .z) <| yE (fun a ha => bv (j + 1, aA, (g + 1), bG) _ ⟨by omega, by rw [List.replicate_succ', ← List.append_assoc]; exact bH, by omega, bI, bK, bN, bM, bL⟩ (by show (k : Int).toNat - (j + 1) < (k : Int).toNat - j; omega) a (ha.kp [0, 1, 6, 8, 54, 55]))
   have ag : j = (k : Int).toNat := by omega
   subst ag; obtain ⟨f', bO, ah⟩ := qjE (by omega) hf hS; rw [ah] at A; refine qk (eS (qf (qe (nB  (fun a ha => ak (l ++ List.replicate (k : Int).toNat (Cel.mk d c), V, v, g, y) _ ⟨⟨f', by rw [List.length_append, List.length_replicate]; omega, A⟩, by rw [List.length_append, List.length_replicate]; omega, by omega, F, B, S, K⟩ (by show W.toNat - (l ++ List.replicate (k : Int).toNat (Cel.mk d c)).length < W.toNat - l.length; rw [List.length_append, List.length_replicate]; omega) a (ha.kp [0, 1, 6]))))))
  refine yd (uL 11 10) [] .z <| yDe (nS ?_); refine ycf <| yk <| yx 2 <| q8 ?_; have hS := qcm (W := W) (out := l) (by rw [C]; exact H) I M; rw [if_neg (by rintro (h | h | h); exact absurd (a0.symm.trans h) (by decide); exact a1 h; exact absurd h (by rw [List.eq_nil_of_length_eq_zero (show l.length = 0 by omega)]; intro e; cases e))] at hS; refine qN [0, 1, 6, 8, 54, 55] (f' := [(0, pX rv), (1, iX W), (6, .slice (o.map at0) n cap), (8, pX r), (54, iX k), (55, iX 0)]) <| qw (σ := Nat × Option Nat × Nat × Nat) (fun ⟨j, v, g, y⟩ => [(0, pX rv), (1, iX W), (6, .slice (v.map at0) g y), (8, pX r), (54, iX k), (55, iX ((j : Nat) : Int))]) (fun ⟨j, v, g, y⟩ u => (j : Int) ≤ k ∧ Own u qcy 6 v g y (qX (l ++ List.replicate j (Cel.mk d c))) ∧ g = n + j ∧ (∀ b, v = some b → w.heap.size ≤ b) ∧ (∀ b, v = some b → ¬ b = r) ∧ Blk u r [rX d, .bool c.bold, .bool c.under, .bool c.turned, iX c.fore, iX c.back] 95 ∧ RdrAt u rv D V ∧ Ch (· = rv) w u) (fun ⟨j, v, g, y⟩ => (k : Int).toNat - j) (0, o, n, cap) rfl ?_ ?_
  ·exact ⟨by omega, by rw [List.replicate_zero, List.append_nil]; exact E, rfl, G, U, ad, P, O⟩
  intro q cn bP co bQ; obtain ⟨j, v, g, y⟩ := q; obtain ⟨bw, F, bx, B, Q, R, S, K⟩ := bP; have bz : g ≤ y := F.2.1; refine yx 1 <| ys <| yc (rL ((j : Nat) : Int) k) (fun af => ?_) fun af => ?_
  ·refine yk <| ys <| q8 <| q7 <| yp 2 [] (.a (R.cs 0 6) .z) <| yo (yB [rX d, .bool c.bold, .bool c.under, .bool c.turned, iX c.fore, iX c.back] 95 1 fun bR aC bS cp bT a5 => ?_); have cq := zv (b := aC) F; have aD : Ch (· = rv) w bR := zt K a5 eZ; have cr := zn bS K; have bU := F.ch a5 iZ; have bV := S.ch a5 id id; have aE := R.ch a5 id; refine yo (qaf 95 6 32 v g y (qX (l ++ List.replicate j (Cel.mk d c))) (some ⟨aC, 0, none⟩) 1 1 [rX d, .bool c.bold, .bool c.under, .bool c.turned, iX c.fore, iX c.back] (some 60) (g + 1) rfl (qX ((l ++ List.replicate j (Cel.mk d c)) ++ [(Cel.mk d c)])) (qi7 (l ++ List.replicate j (Cel.mk d c)) (Cel.mk d c)) (by kernel_rfl) bU (Rd.all bT) rfl rfl (fun h => by cases h) (by constructor <;> first | omega | (simp only [maxLen]; omega)) ?_); intro bW aF bX bY aG ct a6; have bZ : ∀ b, aF = some b → w.heap.size ≤ b := fun b e => by
    rcases aG with h | ⟨g', h, h'⟩
    ·exact B b (h ▸ e)
    rw [h] at e; have := zi e; have := zs aD; omega
   have c0 := App.of aG a6; have c1 := c0.apart aE.lt Q; have c2 : Ch (· = rv) w bW := zt aD a6 (fun i hi h => by have := B _ h; omega); have c3 := bV.ch a6 (fun h => by have := B _ h; have := hA.lt; omega) (fun h => by have := B _ h; have := hA.dlt; omega); have c4 := aE.ch a6 (fun h => Q _ h rfl); refine yq 5 <| yE (nB (nS ?_)); refine q7 <| yp 2 [] (.q6 (((j : Nat) : Int) + 1) .z) <| yE (fun a ha => bQ (j + 1, aF, (g + 1), bX) _ ⟨by omega, by rw [List.replicate_succ', ← List.append_assoc]; exact bY, by omega, bZ, c1, c4, c3, c2⟩ (by show (k : Int).toNat - (j + 1) < (k : Int).toNat - j; omega) a (ha.kp [0, 1, 6, 8, 54, 55]))
  have ag : j = (k : Int).toNat := by omega
  subst ag; obtain ⟨f', bO, ah⟩ := qjE (by omega) hf hS; rw [ah] at A; refine qk (eS (qf (qe (nB  (fun a ha => ak (l ++ List.replicate (k : Int).toNat (Cel.mk d c), V, v, g, y) _ ⟨⟨f', by rw [List.length_append, List.length_replicate]; omega, A⟩, by rw [List.length_append, List.length_replicate]; omega, by omega, F, B, S, K⟩ (by show W.toNat - (l ++ List.replicate (k : Int).toNat (Cel.mk d c)).length < W.toNat - l.length; rw [List.length_append, List.length_replicate]; omega) a (ha.kp [0, 1, 6]))))))
 rcases o with _ | ob
 ·obtain ⟨rfl, rfl⟩ := hO.2.2.2.1 rfl; obtain rfl := List.eq_nil_of_length_eq_zero C; refine qk (eS (qf (qe (nS ?_)))); refine ys <| ysr <| yq 1 <| yo (yQ (qmJ _) fun c5 ai => ?_); have aH : Ch (· = rv) w c5 := zt T ai eZ; have aI := a7.ch ai id id; have c6 := hO.ch ai iZ; refine yz 3 <| yc (rN (rY (qbo []))) (fun L => ?_) fun L => ?_
  ·refine yx 2 <| qd (rS (yR2 [nX, .bool false] .z ?_)); have hR := qh0 A (qd2 (by first | omega | (simp; omega))); rw [hL] at hR; rw [qjL L] at hR; simp only [Prod.mk.injEq] at hR; obtain ⟨rfl, rfl, rfl⟩ := hR; exact ⟨none, 0, 0, rfl, rfl, Own.nil _ _ _, (fun b e => by cases e), aI, aH⟩
  refine yk <| yx 3 <| qd (yR2 [nX, .bool true] .z ?_); have hR := qh0 A (qd2 (by first | omega | (simp; omega))); rw [hL] at hR; rw [if_pos L] at hR; simp only [Prod.mk.injEq] at hR; obtain ⟨rfl, rfl, rfl⟩ := hR; exact ⟨none, _, _, rfl, rfl, c6, G, aI, aH⟩
 refine qk (eS (qf (qe (nS ?_)))); refine ys <| ysr <| yq 1 <| yo (yQ (qmG ob n cap l _ (qh T hT (fun (h : qcj = rv) => by have := g_lt; omega) (fun (h : qaY = rv) => by have := g_lt; omega)) (Own.rd hO) hO.lt C (by omega)) fun c7 aj => ?_); have aJ : Ch (· = rv) w c7 := zt T aj eZ; have aK := a7.ch aj id id; have c8 := hO.ch aj iZ; refine yz 3 <| yc (rN (rY (qbo l))) (fun L => ?_) fun L => ?_
 ·refine yx 2 <| qd (rS (yR2 [nX, .bool false] .z ?_)); have hR := qh0 A (qd2 (by first | omega | (simp; omega))); rw [hL] at hR; rw [qjL L] at hR; simp only [Prod.mk.injEq] at hR; obtain ⟨rfl, rfl, rfl⟩ := hR; exact ⟨none, 0, 0, rfl, rfl, Own.nil _ _ _, (fun b e => by cases e), aK, aJ⟩
 refine yk <| yx 3 <| qd (yR2 [.slice (some ⟨ob, 0, none⟩) n cap, .bool true] .z ?_); have hR := qh0 A (qd2 (by first | omega | (simp; omega))); rw [hL] at hR; rw [if_pos L] at hR; simp only [Prod.mk.injEq] at hR; obtain ⟨rfl, rfl, rfl⟩ := hR; exact ⟨(some ob), _, _, rfl, C, c8, G, aK, aJ⟩
theorem qh1 {w : World} {b : Nat} {x : ByteArray} (h : Rd w (some ⟨b, 0, none⟩) (qeg x)) {i : Nat} (hi : i < x.size) : w.cell? ⟨b, 0 + ((i : Nat) : Int).toNat * 1, none⟩ = some (uX (bt x (i : Int))) := by
 rw [Int.toNat_natCast, Nat.mul_one]; exact qbs h i _ (bytV_get x hi)
theorem qi9 {n : Nat} {p : Nat → Bool} (h : ∀ i, i < n → p i = true) : (List.range n).all p = true := List.all_eq_true.2 fun i hi => h i (List.mem_range.1 hi)
theorem qfa {n k : Nat} {p : Nat → Bool} (hk : k < n) (h : p k = false) : (List.range n).all p = false := Bool.eq_false_iff.2 fun e => by
  rw [List.all_eq_true.1 e k (List.mem_range.2 hk)] at h; cases h
theorem qjM {lo : Nat} {f : Int → Bool} {m : ByteArray} (h1 : ¬ (m.size : Int) < lo) (h2 : ¬ 2 < (m.size : Int)) (h : ∀ i : Nat, i < m.size → f (bt m (i : Int)) = true) : true = qaU lo f m := by
 unfold qaU; rw [qi9 h, decide_eq_true (show lo ≤ m.size by omega), decide_eq_true (show m.size ≤ 2 by omega)]; rfl
theorem qmK {lo : Nat} {f : Int → Bool} {m : ByteArray} (h1 : (m.size : Int) < lo) : false = qaU lo f m := by
 unfold qaU; rw [decide_eq_false (show ¬ lo ≤ m.size by omega)]; rfl
theorem qia {lo : Nat} {f : Int → Bool} {m : ByteArray} (h2 : 2 < (m.size : Int)) : false = qaU lo f m := by
 unfold qaU; rw [decide_eq_false (show ¬ m.size ≤ 2 by omega), Bool.and_false]; rfl
theorem qib {lo : Nat} {f : Int → Bool} {m : ByteArray} {k : Nat} (hk : k < m.size) (h : f (bt m (k : Int)) = false) : false = qaU lo f m := by
 unfold qaU; rw [qfa hk h, Bool.and_false]
theorem textB_t {x : ByteArray} (h : ∀ i : Nat, i < x.size → decide (32 ≤ bt x (i : Int)) = true) : decide ((x.size : Int) ≤ 40) = qe6 x := by
 unfold qe6; rw [qi9 h, Bool.true_and]; exact decide_eq_decide.2 (by omega)
theorem textB_at {x : ByteArray} {k : Nat} (hk : k < x.size) (h : bt x (k : Int) < 32) : false = qe6 x := by
 unfold qe6; rw [qfa hk (decide_eq_false (by omega))]; rfl
theorem numsB_t {l : List Int} (h : ∀ i : Nat, i < l.length → 0 ≤ l.getD i 0 ∧ l.getD i 0 ≤ 9999) : decide ((l.length : Int) ≤ 8) = qem l := by
 unfold qem; have : l.all (fun n => decide (0 ≤ n) && decide (n ≤ 9999)) = true := List.all_eq_true.2 fun x hx => by
  obtain ⟨i, hi, rfl⟩ := List.getElem_of_mem hx; have := h i hi; simp only [List.getD, List.getElem?_eq_getElem hi, Option.getD_some] at this; simp [this.1, this.2]
 rw [this, Bool.true_and]; exact decide_eq_decide.2 (by omega)
theorem qjN {l : List Int} {k : Nat} (hk : k < l.length) (h : ¬ (0 ≤ l.getD k 0 ∧ l.getD k 0 ≤ 9999)) : false = qem l := by
 unfold qem; have : l.all (fun n => decide (0 ≤ n) && decide (n ≤ 9999)) = false := Bool.eq_false_iff.2 fun e => by
  have := List.all_eq_true.1 e _ (qeB hk); simp only [Bool.and_eq_true, decide_eq_true_eq] at this; exact h this
 rw [this]; rfl
theorem qfb {w : World} {b o : Nat} {l : List Int} (h : Rd w (some ⟨b, o, none⟩) (l.map (Value.int .i64))) {k : Nat} (hk : k < l.length) : w.cell? ⟨b, o + ((k : Nat) : Int).toNat * 1, none⟩ = some (iX (l.getD k 0)) := by
 rw [Int.toNat_natCast, Nat.mul_one]; refine qbs h k _ ?_; rw [List.getElem?_map, List.getElem?_eq_getElem hk]; simp [List.getD, List.getElem?_eq_getElem hk]
set_option maxHeartbeats 4000000 in
theorem qmL (c : Int) (w : World) : Calls Tryz.prog 69 [uX c].toArray w fun e w' => e = .returned (.bool (qiK c)) ∧ Ch (fun _ => False) w w' := by
 refine yA Tryz.func69 rfl <| yx 1 <| ysr <| yq 3 <| yw [5] (rM 32 c) (fun a => ?_) fun a => ?_
 ·refine yz 7 <| qd (yR1 (.bool (decide (c < 48))) ?_); refine ⟨?_, Up.ch (zm w)⟩; refine zc ?_; rw [Bool.eq_iff_iff]; simp only [qiK, Bool.and_eq_true, decide_eq_true_eq, Bool.false_eq_true, true_iff, false_iff, iff_true, iff_false, not_and]; omega
 refine yz 7 <| qd (yR1 (.bool false) ?_); refine ⟨?_, Up.ch (zm w)⟩; refine zc ?_; rw [Bool.eq_iff_iff]; simp only [qiK, Bool.and_eq_true, decide_eq_true_eq, Bool.false_eq_true, true_iff, false_iff, iff_true, iff_false, not_and]; omega
set_option maxHeartbeats 4000000 in
theorem qmM (c : Int) (w : World) : Calls Tryz.prog 70 [uX c].toArray w fun e w' => e = .returned (.bool (qby c)) ∧ Ch (fun _ => False) w w' := by
 refine yA Tryz.func70 rfl <| yx 1 <| ysr <| yq 1 <| yo (yQ (qmL (c) _) fun g f => ?_); have a := zu (zm w) f iZ; refine yq 3 <| yw [5] (rY (qiK (c))) (fun b => ?_) fun b => ?_
 ·have h := b; refine yz 11 <| qd (yR1 (.bool true) ?_); refine ⟨zc ?_, Up.ch a⟩; unfold qby
  first | (simp [*]; done) | (simp [*]; omega)
 have i := b; refine yq 6 <| yw [8] (rM 60 c) (fun d => ?_) fun d => ?_
 ·have j := d; refine yz 11 <| qd (yR1 (.bool (decide (c ≤ 63))) ?_); refine ⟨zc ?_, Up.ch a⟩; unfold qby
  first | (simp [*]; done) | (simp [*]; omega)
 have k := d; refine yz 11 <| qd (yR1 (.bool false) ?_); refine ⟨zc ?_, Up.ch a⟩; unfold qby
 first | (simp [*]; done) | (simp [*]; omega)
set_option maxHeartbeats 4000000 in
theorem qg3 (p : PS) (pa : Option Addr) (pn pc : Nat) (w : World) : Calls Tryz.prog 68 [.agg #[iX p.state, uX p.utf.b0, uX p.utf.b1, uX p.utf.b2, iX p.utf.n, .string p.marks, .slice pa pn pc, .string p.text, iX p.within], iX 1, iX 2, .func (.func 69) #[] #[]].toArray w fun e w' => e = .returned (.bool (qaU 1 qiK p.marks)) ∧ Ch (fun _ => False) w w' := by
 refine yA Tryz.func68 rfl <| ysr <| yo (yN [iX p.state, uX p.utf.b0, uX p.utf.b1, uX p.utf.b2, iX p.utf.n, .string p.marks, .slice pa pn pc, .string p.text, iX p.within] 55 fun N O B P d C => ?_); have Q := zn B (zm w); have b := zu (zm w) C iZ; refine yz 2 <| ys <| ysr <| yp 6 [] (.l (d.c 5) .z) <| yw [16] (rL ((p.marks).size : Int) 1) (fun f => ?_) fun f => ?_
 ·refine yz 12 <| yct <| yx 1 <| qd (rS (yR1 (.bool false) ?_)); exact ⟨congrArg Ending.returned (congrArg Value.bool (qmK f)), Up.ch b⟩
 refine yp 12 [] (.l (d.c 5) .z) <| ye <| yc (rL 2 ((p.marks).size : Int)) (fun g => ?_) fun g => ?_
 ·refine yx 1 <| qd (rS (yR1 (.bool false) ?_)); exact ⟨congrArg Ending.returned (congrArg Value.bool (qia g)), Up.ch b⟩
 refine yk <| ys <| ysr <| yp 2 [] (.l (d.c 5) .z) <| yo (qf7 p.marks (some 25) (by kernel_rfl) ?_); intro D j s E R F G; have S := zn E b; have H := zu b G iZ; refine yz 5 <| q8 <| qN [3, 25, 26, 27] (f' := [(3, .func (.func 69) #[] #[]), (25, .slice (some ⟨j, 0, none⟩) (p.marks).size s), (26, iX (((p.marks).size : Nat) : Int)), (27, iX 0)]) <| qw (σ := Nat) (fun k => [(3, .func (.func 69) #[] #[]), (25, .slice (some ⟨j, 0, none⟩) (p.marks).size s), (26, iX (((p.marks).size : Nat) : Int)), (27, iX ((k : Nat) : Int))]) (fun k u => k ≤ (p.marks).size ∧ (∀ i : Nat, i < k → qiK (bt p.marks (i : Int)) = true) ∧ Rd u (some ⟨j, 0, none⟩) (qeg p.marks) ∧ Ch (fun _ => False) D u) (fun k => (p.marks).size - k) 0 rfl ?_ ?_
 ·exact ⟨Nat.zero_le _, fun i hi => absurd hi (Nat.not_lt_zero i), F, Ch.refl _ _⟩
 intro k T I U J; obtain ⟨hk, t, x, y⟩ := I; have A := zu H y iZ; refine yx 1 <| ys <| yc (rL ((k : Nat) : Int) (((p.marks).size : Nat) : Int)) (fun m => ?_) fun m => ?_
 ·have V := m; refine yk <| ys <| q8 <| ysr <| yp 3 [] (.i ((k : Nat) : Int) ((p.marks).size) (.l (v := uX (bt p.marks ((k : Nat) : Int))) (qh1 x (i := k) (by omega)) .z)) <| ye <| ysr <| yq 2 <| yo (yQT (qmL ((bt p.marks ((k : Nat) : Int))) _) fun W o => ?_); have K := zu A o iZ; have L := zt y o eZ; have M := Ch.rd o x id; refine yz 4 <| yc (rN (rY (qiK ((bt p.marks ((k : Nat) : Int)))))) (fun q => ?_) fun q => ?_
  ·have r : qiK (bt p.marks ((k : Nat) : Int)) = false := q; refine yx 1 <| qd (rB (rS (qy (rB (rS (yR1 (.bool false) ?_)))))); exact ⟨congrArg Ending.returned (congrArg Value.bool (qib (by omega) r)), Up.ch K⟩
  have r : qiK (bt p.marks ((k : Nat) : Int)) = true := q; refine qp (nB (nS ?_)); refine q7 <| yp 2 [] (.q6 (((k : Nat) : Int) + 1) .z) <| yE (fun a ha => J (k + 1) _ ⟨by omega, fun i hi => (Nat.lt_or_ge i k).elim (t i) (fun h => by rw [show i = k by omega]; exact r), M, L⟩ (by show (p.marks).size - (k + 1) < (p.marks).size - k; omega) a (ha.kp [3, 25, 26, 27]))
 have X := m; refine qk (eS (qf (qe (nS ?_)))); refine yx 1 <| qd (yR1 (.bool true) ?_); exact ⟨congrArg Ending.returned (congrArg Value.bool (qjM f g (fun i hi => t i (by omega)))), Up.ch A⟩
set_option maxHeartbeats 4000000 in
theorem qco (p : PS) (pa : Option Addr) (pn pc : Nat) (w : World) : Calls Tryz.prog 68 [.agg #[iX p.state, uX p.utf.b0, uX p.utf.b1, uX p.utf.b2, iX p.utf.n, .string p.marks, .slice pa pn pc, .string p.text, iX p.within], iX 0, iX 2, .func (.func 70) #[] #[]].toArray w fun e w' => e = .returned (.bool (qaU 0 qby p.marks)) ∧ Ch (fun _ => False) w w' := by
 refine yA Tryz.func68 rfl <| ysr <| yo (yN [iX p.state, uX p.utf.b0, uX p.utf.b1, uX p.utf.b2, iX p.utf.n, .string p.marks, .slice pa pn pc, .string p.text, iX p.within] 55 fun N O B P b C => ?_); have Q := zn B (zm w); have d := zu (zm w) C iZ; refine yz 2 <| ys <| ysr <| yp 6 [] (.l (b.c 5) .z) <| yw [16] (rL ((p.marks).size : Int) 0) (fun r => ?_) fun r => ?_
 ·exfalso; omega
 refine yp 12 [] (.l (b.c 5) .z) <| ye <| yc (rL 2 ((p.marks).size : Int)) (fun f => ?_) fun f => ?_
 ·refine yx 1 <| qd (rS (yR1 (.bool false) ?_)); exact ⟨congrArg Ending.returned (congrArg Value.bool (qia f)), Up.ch d⟩
 refine yk <| ys <| ysr <| yp 2 [] (.l (b.c 5) .z) <| yo (qf7 p.marks (some 25) (by kernel_rfl) ?_); intro D g s E R F G; have S := zn E d; have H := zu d G iZ; refine yz 5 <| q8 <| qN [3, 25, 26, 27] (f' := [(3, .func (.func 70) #[] #[]), (25, .slice (some ⟨g, 0, none⟩) (p.marks).size s), (26, iX (((p.marks).size : Nat) : Int)), (27, iX 0)]) <| qw (σ := Nat) (fun k => [(3, .func (.func 70) #[] #[]), (25, .slice (some ⟨g, 0, none⟩) (p.marks).size s), (26, iX (((p.marks).size : Nat) : Int)), (27, iX ((k : Nat) : Int))]) (fun k u => k ≤ (p.marks).size ∧ (∀ i : Nat, i < k → qby (bt p.marks (i : Int)) = true) ∧ Rd u (some ⟨g, 0, none⟩) (qeg p.marks) ∧ Ch (fun _ => False) D u) (fun k => (p.marks).size - k) 0 rfl ?_ ?_
 ·exact ⟨Nat.zero_le _, fun i hi => absurd hi (Nat.not_lt_zero i), F, Ch.refl _ _⟩
 intro k T I U J; obtain ⟨hk, t, x, y⟩ := I; have A := zu H y iZ; refine yx 1 <| ys <| yc (rL ((k : Nat) : Int) (((p.marks).size : Nat) : Int)) (fun j => ?_) fun j => ?_
 ·have V := j; refine yk <| ys <| q8 <| ysr <| yp 3 [] (.i ((k : Nat) : Int) ((p.marks).size) (.l (v := uX (bt p.marks ((k : Nat) : Int))) (qh1 x (i := k) (by omega)) .z)) <| ye <| ysr <| yq 2 <| yo (yQT (qmM ((bt p.marks ((k : Nat) : Int))) _) fun W m => ?_); have K := zu A m iZ; have L := zt y m eZ; have M := Ch.rd m x id; refine yz 4 <| yc (rN (rY (qby ((bt p.marks ((k : Nat) : Int)))))) (fun o => ?_) fun o => ?_
  ·have q : qby (bt p.marks ((k : Nat) : Int)) = false := o; refine yx 1 <| qd (rB (rS (qy (rB (rS (yR1 (.bool false) ?_)))))); exact ⟨congrArg Ending.returned (congrArg Value.bool (qib (by omega) q)), Up.ch K⟩
  have q : qby (bt p.marks ((k : Nat) : Int)) = true := o; refine qp (nB (nS ?_)); refine q7 <| yp 2 [] (.q6 (((k : Nat) : Int) + 1) .z) <| yE (fun a ha => J (k + 1) _ ⟨by omega, fun i hi => (Nat.lt_or_ge i k).elim (t i) (fun h => by rw [show i = k by omega]; exact q), M, L⟩ (by show (p.marks).size - (k + 1) < (p.marks).size - k; omega) a (ha.kp [3, 25, 26, 27]))
 have X := j; refine qk (eS (qf (qe (nS ?_)))); refine yx 1 <| qd (yR1 (.bool true) ?_); exact ⟨congrArg Ending.returned (congrArg Value.bool (qjM r f (fun i hi => t i (by omega)))), Up.ch A⟩
set_option maxHeartbeats 4000000 in
theorem qjO (p : PS) (pa : Option Addr) (pn pc : Nat) (w : World) (htz : p.text.size ≤ 1000) : Calls Tryz.prog 72 [.agg #[iX p.state, uX p.utf.b0, uX p.utf.b1, uX p.utf.b2, iX p.utf.n, .string p.marks, .slice pa pn pc, .string p.text, iX p.within]].toArray w fun e w' => e = .returned (.bool (qe6 p.text)) ∧ Ch (fun _ => False) w w' := by
 refine yA Tryz.func72 rfl <| ysr <| yo (yN [iX p.state, uX p.utf.b0, uX p.utf.b1, uX p.utf.b2, iX p.utf.n, .string p.marks, .slice pa pn pc, .string p.text, iX p.within] 55 fun L j y M m A => ?_); have N := zn y (zm w); have o := zu (zm w) A iZ; refine yz 2 <| ys <| ysr <| yp 2 [] (.l (m.c 7) .z) <| yo (qf7 p.text (some 7) (by kernel_rfl) ?_); intro B b q C O D r; have P := zn C o; have E := zu o r iZ; have F := m.ch r id; refine yz 5 <| q8 <| qN [1, 7, 8, 9] (f' := [(1, pX j), (7, .slice (some ⟨b, 0, none⟩) (p.text).size q), (8, iX (((p.text).size : Nat) : Int)), (9, iX 0)]) <| qw (σ := Nat) (fun k => [(1, pX j), (7, .slice (some ⟨b, 0, none⟩) (p.text).size q), (8, iX (((p.text).size : Nat) : Int)), (9, iX ((k : Nat) : Int))]) (fun k u => k ≤ (p.text).size ∧ (∀ i : Nat, i < k → (fun c => decide (32 ≤ c)) (bt p.text (i : Int)) = true) ∧ Rd u (some ⟨b, 0, none⟩) (qeg p.text) ∧ Ch (fun _ => False) B u) (fun k => (p.text).size - k) 0 rfl ?_ ?_
 ·exact ⟨Nat.zero_le _, fun i hi => absurd hi (Nat.not_lt_zero i), D, Ch.refl _ _⟩
 intro k Q G R H; obtain ⟨hk, s, t, d⟩ := G; have x := zu E d iZ; have I := F.ch d id; refine yx 1 <| ys <| yc (rL ((k : Nat) : Int) (((p.text).size : Nat) : Int)) (fun f => ?_) fun f => ?_
 ·have S := f; refine yk <| ys <| q8 <| ysr <| yp 3 [] (.i ((k : Nat) : Int) ((p.text).size) (.l (v := uX (bt p.text ((k : Nat) : Int))) (qh1 t (i := k) (by omega)) .z)) <| ye <| yx 2 <| yc (rL (bt p.text ((k : Nat) : Int)) 32) (fun g => ?_) fun g => ?_
  ·have J := g; refine yx 1 <| qd (rB (rS (qy (rB (rS (yR1 (.bool false) ?_)))))); exact ⟨congrArg Ending.returned (congrArg Value.bool (textB_at (by omega) J)), Up.ch x⟩
  have K : decide (32 ≤ bt p.text ((k : Nat) : Int)) = true := decide_eq_true (by have := g; omega); refine qp (nB (nS ?_)); refine q7 <| yp 2 [] (.q6 (((k : Nat) : Int) + 1) .z) <| yE (fun a ha => H (k + 1) _ ⟨by omega, fun i hi => (Nat.lt_or_ge i k).elim (s i) (fun h => by rw [show i = k by omega]; exact K), t, d⟩ (by show (p.text).size - (k + 1) < (p.text).size - k; omega) a (ha.kp [1, 7, 8, 9]))
 have T := f; refine qk (eS (qf (qe (nS ?_)))); refine ysr <| yp 5 [] (.l (I.c 7) .z) <| ye <| qd (yR1 (.bool (decide (((p.text).size : Int) ≤ 40))) ?_); exact ⟨congrArg Ending.returned (congrArg Value.bool (textB_t (fun i hi => s i (by omega)))), Up.ch x⟩
set_option maxHeartbeats 4000000 in
theorem qeC (p : PS) (pa : Option Addr) (pn pc : Nat) (w : World) (hr : Rd w pa (p.params.map (Value.int .i64))) (hl : p.params.length = pn) (hz : pn = 0 ∨ ∃ b o, pa = some ⟨b, o, none⟩) (hn : pn ≤ 8) : Calls Tryz.prog 71 [.agg #[iX p.state, uX p.utf.b0, uX p.utf.b1, uX p.utf.b2, iX p.utf.n, .string p.marks, .slice pa pn pc, .string p.text, iX p.within]].toArray w fun e w' => e = .returned (.bool (qem p.params)) ∧ Ch (fun _ => False) w w' := by
 refine yA Tryz.func71 rfl <| ysr <| yo (yN [iX p.state, uX p.utf.b0, uX p.utf.b1, uX p.utf.b2, iX p.utf.n, .string p.marks, .slice pa pn pc, .string p.text, iX p.within] 55 fun v q x F r s => ?_); have G := zn x (zm w); have y := zu (zm w) s iZ; have A := Rd.ch hr s iZ; refine yz 2 <| ys <| ysr <| yp 4 [] (.l (r.c 6) .z) <| ye <| q8 <| qN [1, 6, 7, 8] (f' := [(1, pX q), (6, .slice pa pn pc), (7, iX ((pn : Nat) : Int)), (8, iX 0)]) <| qw (σ := Nat) (fun k => [(1, pX q), (6, .slice pa pn pc), (7, iX ((pn : Nat) : Int)), (8, iX ((k : Nat) : Int))]) (fun k u => k ≤ pn ∧ (∀ i : Nat, i < k → 0 ≤ p.params.getD i 0 ∧ p.params.getD i 0 ≤ 9999) ∧ Ch (fun _ => False) v u) (fun k => pn - k) 0 rfl ?_ ?_
 ·exact ⟨Nat.zero_le _, fun i hi => absurd hi (Nat.not_lt_zero i), Ch.refl _ _⟩
 intro k H B I C; obtain ⟨hk, t, d⟩ := B; have f := zu y d iZ; have D := Rd.ch A d iZ; have E := r.ch d id; refine yx 1 <| ys <| yc (rL ((k : Nat) : Int) ((pn : Nat) : Int)) (fun g => ?_) fun g => ?_
 ·obtain ⟨pb, po, rfl⟩ := hz.resolve_left (by omega); have J := g; refine yk <| ys <| q8 <| ysr <| yp 3 [] (.i ((k : Nat) : Int) (pn) (.l (o := (po + (((k : Nat) : Int)).toNat * 1)) (qfb D (by omega)) .z)) <| ye <| ysr <| yq 3 <| yw [14] (rL (p.params.getD k 0) 0) (fun j => ?_) fun j => ?_
  ·have K := j; refine yz 6 <| yct <| yx 1 <| qd (rB (rS (qy (rB (rS (yR1 (.bool false) ?_)))))); exact ⟨congrArg Ending.returned (congrArg Value.bool (qjN (l := p.params) (k := k) (by omega) (by omega))), Up.ch f⟩
  have L := j; refine yz 6 <| yc (rL 9999 (p.params.getD k 0)) (fun m => ?_) fun m => ?_
  ·have M := m; refine yx 1 <| qd (rB (rS (qy (rB (rS (yR1 (.bool false) ?_)))))); exact ⟨congrArg Ending.returned (congrArg Value.bool (qjN (l := p.params) (k := k) (by omega) (by omega))), Up.ch f⟩
  have N := m; refine qp (nB (nS ?_)); refine q7 <| yp 2 [] (.q6 (((k : Nat) : Int) + 1) .z) <| yE (fun a ha => C (k + 1) _ ⟨by omega, fun i hi => (Nat.lt_or_ge i k).elim (t i) (fun h => by rw [show i = k by omega]; omega), d⟩ (by show pn - (k + 1) < pn - k; omega) a (ha.kp [1, 6, 7, 8]))
 have O := g; refine qk (eS (qf (qe (nS ?_)))); refine ysr <| yp 5 [] (.l (E.c 6) .z) <| ye <| qd (yR1 (.bool (decide (((pn : Nat) : Int) ≤ 8))) ?_); exact ⟨congrArg Ending.returned (congrArg Value.bool (by rw [← numsB_t (fun i hi => t i (by omega)), hl])), Up.ch f⟩
set_option maxHeartbeats 4000000 in
theorem qmN (x0 : Int) (x1 : Int) (x2 : Int) (w : World) (hU : qbS w) (hB : ∀ x ∈ ([x0, x1, x2] : List Int), 0 ≤ x ∧ x ≤ 255) : Calls Tryz.prog 67 [.agg #[uX x0, uX x1, uX x2, iX 0]].toArray w fun e w' => e = .returned (.bool (utB ⟨x0, x1, x2, 0⟩)) ∧ Ch (fun _ => False) w w' := by
 refine yA Tryz.func67 rfl <| ysr <| yo (yN [uX x0, uX x1, uX x2, iX 0] 52 fun u v m y a n => ?_); have A := zn m (zm w); have b := zu (zm w) n iZ; refine yz 2 <| ys <| ysr <| yp 8 [] (.l (a.c 3) (.l (a.c 3) .z)) <| ye <| ycf <| yk <| ys <| ysr <| yp 6 [3] (.l (a.c 3) (.j 0 (3) (.p (q := 0 < 3) (by omega) .z))) <| ye <| q8 <| yU 4 (yU1 ?_); refine yx 1 <| ys <| yct <| yk <| ys <| q8 <| ysr <| yp 3 [] (.i 0 (3) (.l (a.c 0) .z)) <| ye <| yx 2 <| yc (rI x0 0) (fun d => ?_) fun d => ?_
 ·have o := d; refine yx 1 <| qd (rB (rS (qy (rB (rS (yR1 (.bool false) ?_)))))); refine ⟨zc ?_, Up.ch b⟩; unfold utB US.pend; simp [o]
 have f := d; refine qp (nB (nS ?_)); refine q7 <| yp 2 [] (.q6 1 .z) <| yE (nU (yU1 ?_)); refine yx 1 <| ys <| yct <| yk <| ys <| q8 <| ysr <| yp 3 [] (.i 1 (3) (.l (a.c 1) .z)) <| ye <| yx 2 <| yc (rI x1 0) (fun g => ?_) fun g => ?_
 ·have r := g; refine yx 1 <| qd (rB (rS (qy (rB (rS (yR1 (.bool false) ?_)))))); refine ⟨zc ?_, Up.ch b⟩; unfold utB US.pend; simp [f, r]
 have k := g; refine qp (nB (nS ?_)); refine q7 <| yp 2 [] (.q6 2 .z) <| yE (nU (yU1 ?_)); refine yx 1 <| ys <| yct <| yk <| ys <| q8 <| ysr <| yp 3 [] (.i 2 (3) (.l (a.c 2) .z)) <| ye <| yx 2 <| yc (rI x2 0) (fun h => ?_) fun h => ?_
 ·have s := h; refine yx 1 <| qd (rB (rS (qy (rB (rS (yR1 (.bool false) ?_)))))); refine ⟨zc ?_, Up.ch b⟩; unfold utB US.pend; simp [f, k, s]
 have t := h; refine qp (nB (nS ?_)); refine q7 <| yp 2 [] (.q6 3 .z) <| yE (nU (yU1 ?_)); refine yx 1 <| ys <| ycf <| qk (eS (qf (qe (nS ?_)))); refine ysr <| yp 12 [] (.l (a.c 3) .z) <| ye <| qd (yR1 (.bool true) ?_); refine ⟨zc ?_, Up.ch b⟩; unfold utB US.pend; simp [f, k, t]
set_option maxHeartbeats 4000000 in
theorem qmO (x0 : Int) (x1 : Int) (x2 : Int) (w : World) (hU : qbS w) (hB : ∀ x ∈ ([x0, x1, x2] : List Int), 0 ≤ x ∧ x ≤ 255) : Calls Tryz.prog 67 [.agg #[uX x0, uX x1, uX x2, iX 1]].toArray w fun e w' => e = .returned (.bool (utB ⟨x0, x1, x2, 1⟩)) ∧ Ch (fun _ => False) w w' := by
 refine yA Tryz.func67 rfl <| ysr <| yo (yN [uX x0, uX x1, uX x2, iX 1] 52 fun y k m A a g => ?_); have B := zn m (zm w); have b := zu (zm w) g iZ; have n := qZ g hU id id; refine yz 2 <| ys <| ysr <| yp 8 [] (.l (a.c 3) (.l (a.c 3) .z)) <| ye <| ycf <| yk <| ys <| ysr <| yp 6 [3] (.l (a.c 3) (.j 1 (3) (.p (q := 1 < 3) (by omega) .z))) <| ye <| q8 <| yU 3 (yU1 ?_); refine yx 1 <| ys <| yct <| yk <| ys <| q8 <| ysr <| yp 3 [] (.i 0 (2) (.l (a.c 1) .z)) <| ye <| yx 2 <| yc (rI x1 0) (fun d => ?_) fun d => ?_
 ·have o := d; refine yx 1 <| qd (rB (rS (qy (rB (rS (yR1 (.bool false) ?_)))))); refine ⟨zc ?_, Up.ch b⟩; unfold utB US.pend; simp [o]
 have h := d; refine qp (nB (nS ?_)); refine q7 <| yp 2 [] (.q6 1 .z) <| yE (nU (yU1 ?_)); refine yx 1 <| ys <| yct <| yk <| ys <| q8 <| ysr <| yp 3 [] (.i 1 (2) (.l (a.c 2) .z)) <| ye <| yx 2 <| yc (rI x2 0) (fun f => ?_) fun f => ?_
 ·have s := f; refine yx 1 <| qd (rB (rS (qy (rB (rS (yR1 (.bool false) ?_)))))); refine ⟨zc ?_, Up.ch b⟩; unfold utB US.pend; simp [h, s]
 have t := f; refine qp (nB (nS ?_)); refine q7 <| yp 2 [] (.q6 2 .z) <| yE (nU (yU1 ?_)); refine yx 1 <| ys <| ycf <| qk (eS (qf (qe (nS ?_)))); refine ysr <| yp 8 [] (.l (a.c 3) (.l (a.c 3) (.j 1 (3) .z))) <| yo (yQ (qbL k 0 3 [x0] n (Rd.pre (ys := [x0].map (Value.int .u8)) (r := [uX x1, uX x2, iX 1]) a) a.lt (fun x hx => hB x (by simp only [List.mem_cons, List.not_mem_nil, or_false] at hx ⊢; first | exact hx | (rcases hx with hx | hx; exact .inl hx; exact .inr (.inl hx)) | exact .inl hx)) (qb5 rfl)) fun C u => ?_); have v := zu b u iZ; refine yz 12 <| qd (yR1 (.bool (!(qbn [x0]))) ?_); refine ⟨zc ?_, Up.ch v⟩; unfold utB US.pend; simp [h, t]
set_option maxHeartbeats 4000000 in
theorem qmP (x0 : Int) (x1 : Int) (x2 : Int) (w : World) (hU : qbS w) (hB : ∀ x ∈ ([x0, x1, x2] : List Int), 0 ≤ x ∧ x ≤ 255) : Calls Tryz.prog 67 [.agg #[uX x0, uX x1, uX x2, iX 2]].toArray w fun e w' => e = .returned (.bool (utB ⟨x0, x1, x2, 2⟩)) ∧ Ch (fun _ => False) w w' := by
 refine yA Tryz.func67 rfl <| ysr <| yo (yN [uX x0, uX x1, uX x2, iX 2] 52 fun t g h u a d => ?_); have v := zn h (zm w); have f := zu (zm w) d iZ; have k := qZ d hU id id; refine yz 2 <| ys <| ysr <| yp 8 [] (.l (a.c 3) (.l (a.c 3) .z)) <| ye <| ycf <| yk <| ys <| ysr <| yp 6 [3] (.l (a.c 3) (.j 2 (3) (.p (q := 2 < 3) (by omega) .z))) <| ye <| q8 <| yU 2 (yU1 ?_); refine yx 1 <| ys <| yct <| yk <| ys <| q8 <| ysr <| yp 3 [] (.i 0 (1) (.l (a.c 2) .z)) <| ye <| yx 2 <| yc (rI x2 0) (fun b => ?_) fun b => ?_
 ·have m := b; refine yx 1 <| qd (rB (rS (qy (rB (rS (yR1 (.bool false) ?_)))))); refine ⟨zc ?_, Up.ch f⟩; unfold utB US.pend; simp [m]
 have n := b; refine qp (nB (nS ?_)); refine q7 <| yp 2 [] (.q6 1 .z) <| yE (nU (yU1 ?_)); refine yx 1 <| ys <| ycf <| qk (eS (qf (qe (nS ?_)))); refine ysr <| yp 8 [] (.l (a.c 3) (.l (a.c 3) (.j 2 (3) .z))) <| yo (yQ (qbL g 0 3 [x0, x1] k (Rd.pre (ys := [x0, x1].map (Value.int .u8)) (r := [uX x2, iX 2]) a) a.lt (fun x hx => hB x (by simp only [List.mem_cons, List.not_mem_nil, or_false] at hx ⊢; first | exact hx | (rcases hx with hx | hx; exact .inl hx; exact .inr (.inl hx)) | exact .inl hx)) (qb5 rfl)) fun y o => ?_); have s := zu f o iZ; refine yz 12 <| qd (yR1 (.bool (!(qbn [x0, x1]))) ?_); refine ⟨zc ?_, Up.ch s⟩; unfold utB US.pend; simp [n]
set_option maxHeartbeats 4000000 in
theorem qmQ (x0 : Int) (x1 : Int) (x2 : Int) (w : World) (hU : qbS w) (hB : ∀ x ∈ ([x0, x1, x2] : List Int), 0 ≤ x ∧ x ≤ 255) : Calls Tryz.prog 67 [.agg #[uX x0, uX x1, uX x2, iX 3]].toArray w fun e w' => e = .returned (.bool (utB ⟨x0, x1, x2, 3⟩)) ∧ Ch (fun _ => False) w w' := by
 refine yA Tryz.func67 rfl <| ysr <| yo (yN [uX x0, uX x1, uX x2, iX 3] 52 fun m d f n a b => ?_); have o := zn f (zm w); have g := zu (zm w) b iZ; have h := qZ b hU id id; refine yz 2 <| ys <| ysr <| yp 8 [] (.l (a.c 3) (.l (a.c 3) .z)) <| ye <| ycf <| yk <| ys <| ysr <| yp 6 [] (.l (a.c 3) (.j 3 (3) .z)) <| ye <| q8 <| yU 1 (yU1 ?_); refine yx 1 <| ys <| ycf <| qk (eS (qf (qe (nS ?_)))); refine ysr <| yp 8 [] (.l (a.c 3) (.l (a.c 3) (.j 3 (3) .z))) <| yo (yQ (qbL d 0 3 [x0, x1, x2] h (Rd.pre (ys := [x0, x1, x2].map (Value.int .u8)) (r := [iX 3]) a) a.lt (fun x hx => hB x (by simp only [List.mem_cons, List.not_mem_nil, or_false] at hx ⊢; first | exact hx | (rcases hx with hx | hx; exact .inl hx; exact .inr (.inl hx)) | exact .inl hx)) (qb5 rfl)) fun p i => ?_); have k := zu g i iZ; refine yz 12 <| qd (yR1 (.bool (!(qbn [x0, x1, x2]))) ?_); refine ⟨zc ?_, Up.ch k⟩; unfold utB US.pend; simp [true_and]
theorem qmR {u : US} (h : u.n < 0 ∨ 3 < u.n) : false = utB u := by
 unfold utB; rcases h with h | h
 ·rw [decide_eq_false (show ¬ 0 ≤ u.n by omega)]; rfl
 rw [decide_eq_false (show ¬ u.n ≤ 3 by omega), Bool.and_false]; rfl
set_option maxHeartbeats 4000000 in
theorem qmS (u : US) (w : World) (hn : u.n < 0 ∨ 3 < u.n) : Calls Tryz.prog 67 [.agg #[uX u.b0, uX u.b1, uX u.b2, iX u.n]].toArray w fun e w' => e = .returned (.bool (utB u)) ∧ Ch (fun _ => False) w w' := by
 refine yA Tryz.func67 rfl <| ysr <| yo (yN [uX u.b0, uX u.b1, uX u.b2, iX u.n] 52 fun i j g k d h => ?_); have m := zn g (zm w); have f := zu (zm w) h iZ; refine yz 2 <| ys <| ysr <| yp 4 [] (.l (d.c 3) .z) <| yw [8] (rL u.n 0) (fun a => ?_) fun a => ?_
 ·have o := a; refine yz 8 <| yct <| yx 1 <| qd (rS (yR1 (.bool false) ?_)); exact ⟨congrArg Ending.returned (congrArg Value.bool (qmR hn)), Up.ch f⟩
 have p := a; refine yp 8 [] (.l (d.c 3) .z) <| ye <| yc (rL 3 u.n) (fun b => ?_) fun b => ?_
 ·have q := b; refine yx 1 <| qd (rS (yR1 (.bool false) ?_)); exact ⟨congrArg Ending.returned (congrArg Value.bool (qmR hn)), Up.ch f⟩
 have r := b; exfalso; omega
theorem qmT (u : US) (w : World) (hU : qbS w) (ho : u.ok) : Calls Tryz.prog 67 [.agg #[uX u.b0, uX u.b1, uX u.b2, iX u.n]].toArray w fun e w' => e = .returned (.bool (utB u)) ∧ Ch (fun _ => False) w w' := by
 obtain ⟨a, b, c, n⟩ := u; obtain ⟨d, f, g, h⟩ := ho; dsimp only at *; have hB : ∀ x ∈ ([a, b, c] : List Int), 0 ≤ x ∧ x ≤ 255 := fun x hx => by
  simp only [List.mem_cons, List.not_mem_nil, or_false] at hx; rcases hx with rfl | rfl | rfl <;> assumption
 by_cases hn : n < 0 ∨ 3 < n
 ·exact qmS ⟨a, b, c, n⟩ w hn
 have hn : n = 0 ∨ n = 1 ∨ n = 2 ∨ n = 3 := by omega
 rcases hn with rfl | rfl | rfl | rfl
 ·exact qmN a b c w hU hB
 ·exact qmO a b c w hU hB
 ·exact qmP a b c w hU hB
 exact qmQ a b c w hU hB
set_option maxHeartbeats 4000000 in
theorem rightE (p : PS) (pa : Option Addr) (pn pc : Nat) (w : World) (hU : qbS w) (ho : p.utf.ok) (hr : Rd w pa (p.params.map (Value.int .i64))) (hl : p.params.length = pn) (hz : pn = 0 ∨ ∃ b o, pa = some ⟨b, o, none⟩) (hn : pn ≤ 8) (htz : p.text.size ≤ 1000) : Calls Tryz.prog 55 [.agg #[iX p.state, uX p.utf.b0, uX p.utf.b1, uX p.utf.b2, iX p.utf.n, .string p.marks, .slice pa pn pc, .string p.text, iX p.within]].toArray w fun e w' => e = .returned (.bool (qs p)) ∧ Ch (fun _ => False) w w' := by
 refine yA Tryz.func55 rfl <| ysr <| yo (yN [iX p.state, uX p.utf.b0, uX p.utf.b1, uX p.utf.b2, iX p.utf.n, .string p.marks, .slice pa pn pc, .string p.text, iX p.within] 55 fun dn dp c7 dq d S => ?_); have dr := zn c7 (zm w); have f := zu (zm w) S iZ; have bs := qZ S hU id id; have P := Rd.ch hr S iZ; refine yz 2 <| ysr <| yp 5 [] (.a (d.cs 1 4) .z) <| ye <| ysr <| yp 4 [] (.l (d.c 5) .z) <| yw [12] (rY ((p.marks).toList == (ByteArray.empty).toList)) (fun T => ?_) fun T => ?_
 ·have g : zb p.marks = true := T; refine yp 10 [] (.l (d.c 6) .z) <| ye <| ys <| ysr <| yp 4 [] (.l (d.c 0) .z) <| yw [21] (rI p.state 7) (fun U => ?_) fun U => ?_
  ·have h := U; refine yp 9 [] (.l (d.c 8) .z) <| yw [26] (rI p.within 0) (fun V => ?_) fun V => ?_
   ·have c8 := V; refine yz 17 <| yct <| yx 1 <| qd (rS (yR1 (.bool false) ?_)); refine ⟨zc ?_, Up.ch f⟩; unfold qs qbq
    try rw [show (p.text.toList == ByteArray.empty.toList) = zb p.text from rfl]
    simp [g, h, c8]
   have j := V; refine yp 13 [] (.l (d.c 0) .z) <| yw [30] (rI p.state 0) (fun W => ?_) fun W => ?_
   ·have k := W; refine yz 17 <| yc (rN (rY ((((p.utf.b0 : Int) == 0) && (((p.utf.b1 : Int) == 0) && (((p.utf.b2 : Int) == 0) && true))) && (((p.utf.n : Int) == 0) && true)))) (fun X => ?_) fun X => ?_
    ·have c9 : qcu p.utf = false := by rw [← X]; unfold qcu; simp [Bool.and_assoc]
     refine yx 1 <| qd (rS (yR1 (.bool false) ?_)); refine ⟨zc ?_, Up.ch f⟩; unfold qs qbq
     try rw [show (p.text.toList == ByteArray.empty.toList) = zb p.text from rfl]
     simp [g, h, j, k, c9]
    have q : qcu p.utf = true := by rw [← X]; unfold qcu; simp [Bool.and_assoc]
    refine yk <| ys <| ysr <| yp 2 [] (.l (d.c 0) .z) <| ye <| q8 <| ys <| q8 <| ys <| q8 <| ys <| q8 <| ys <| q8 <| ys <| q8 <| ys <| q8 <| ys <| ys <| yx 2 <| yc (rE p.state 0) (fun Y => ?_) fun Y => ?_
    ·have ds := Y; exfalso; omega
    have r := Y; refine yk <| ys <| yx 2 <| yc (rE p.state 1) (fun Z => ?_) fun Z => ?_
    ·have bt := Z; refine qk (eS (eS (eB (eS (qe (nS ?_)))))); refine ys <| ysr <| yq 2 <| yw [63] (rE ((pn : Nat) : Int) 0) (fun ca => ?_) fun ca => ?_
     ·have cb : (p.params.length == 0) = true := by rw [hl]; first | (rw [beq_iff_eq]; omega) | (rw [beq_eq_false_iff_ne]; omega)
      refine yp 7 [] (.l (d.c 7) .z) <| ye <| qd (rS (rB (rS (rB (rS (rB (rS (rB (rS (rB (rS (yR1 (.bool ((p.text).toList == (ByteArray.empty).toList)) ?_)))))))))))); refine ⟨zc ?_, Up.ch f⟩; unfold qs qbq
      try rw [show (p.text.toList == ByteArray.empty.toList) = zb p.text from rfl]
      simp [g, h, j, k, q, r, bt, cb]
     have cc : (p.params.length == 0) = false := by rw [hl]; first | (rw [beq_iff_eq]; omega) | (rw [beq_eq_false_iff_ne]; omega)
     refine yz 7 <| qd (rS (rB (rS (rB (rS (rB (rS (rB (rS (rB (rS (yR1 (.bool false) ?_)))))))))))); refine ⟨zc ?_, Up.ch f⟩; unfold qs qbq
     try rw [show (p.text.toList == ByteArray.empty.toList) = zb p.text from rfl]
     simp [g, h, j, k, q, r, bt, cc]
    have t := Z; refine yk <| ys <| yx 2 <| yc (rE p.state 2) (fun a0 => ?_) fun a0 => ?_
    ·have a1 := a0; refine qk (eS (eS (eB (eS (eB (eS (qe (nS ?_)))))))); refine ys <| ysr <| yp 1 [] (.a (d.cs 0 9) .z) <| yo (yQ (qg3 p pa pn pc _) fun dt bu => ?_); have a2 := zu f bu iZ; have bv := d.ch bu id; refine yq 3 <| yw [70] (rY (qaU 1 qiK p.marks)) (fun a3 => ?_) fun a3 => ?_
     ·have bw := a3; refine yp 9 [] (.l (bv.c 6) .z) <| yw [76] (rE ((pn : Nat) : Int) 0) (fun cd => ?_) fun cd => ?_
      ·have ce : (p.params.length == 0) = true := by rw [hl]; first | (rw [beq_iff_eq]; omega) | (rw [beq_eq_false_iff_ne]; omega)
       refine yp 14 [] (.l (bv.c 7) .z) <| ye <| qd (rS (rB (rS (rB (rS (rB (rS (rB (rS (yR1 (.bool ((p.text).toList == (ByteArray.empty).toList)) ?_)))))))))); refine ⟨zc ?_, Up.ch a2⟩; unfold qs qbq
       try rw [show (p.text.toList == ByteArray.empty.toList) = zb p.text from rfl]
       simp [g, h, j, k, q, r, t, a1, bw, ce]
      have cf : (p.params.length == 0) = false := by rw [hl]; first | (rw [beq_iff_eq]; omega) | (rw [beq_eq_false_iff_ne]; omega)
      refine yz 14 <| qd (rS (rB (rS (rB (rS (rB (rS (rB (rS (yR1 (.bool false) ?_)))))))))); refine ⟨zc ?_, Up.ch a2⟩; unfold qs qbq
      try rw [show (p.text.toList == ByteArray.empty.toList) = zb p.text from rfl]
      simp [g, h, j, k, q, r, t, a1, bw, cf]
     have cg := a3; refine yz 14 <| qd (rS (rB (rS (rB (rS (rB (rS (rB (rS (yR1 (.bool false) ?_)))))))))); refine ⟨zc ?_, Up.ch a2⟩; unfold qs qbq
     try rw [show (p.text.toList == ByteArray.empty.toList) = zb p.text from rfl]
     simp [g, h, j, k, q, r, t, a1, cg]
    have A := a0; refine yk <| ys <| ys <| yx 2 <| yc (rE p.state 3) (fun a4 => ?_) fun a4 => ?_
    ·have a5 := a4; refine yk <| yc (rE p.state 3) (fun a6 => ?_) fun a6 => ?_
     ·have a7 := a6; refine qk (eS (eS (eB (eS (eB (eS (eB (eS (qe (nS ?_)))))))))); refine ys <| ysr <| yp 1 [] (.a (d.cs 0 9) .z) <| yo (yQ (qco p pa pn pc _) fun du a8 => ?_); have bx := zu f a8 iZ; have ci := Rd.ch P a8 iZ; have bz := d.ch a8 id; refine yq 3 <| yw [83] (rY (qaU 0 qby p.marks)) (fun a9 => ?_) fun a9 => ?_
      ·have bA := a9; refine yp 4 [] (.a (bz.cs 0 9) .z) <| yo (yQ (qeC p pa pn pc _ ci hl hz hn) fun dv bB => ?_); have bC := zu bx bB iZ; have cj := bz.ch bB id; refine yq 7 <| yw [87] (rY (qem p.params)) (fun aa => ?_) fun aa => ?_
       ·have ck := aa; refine yp 12 [] (.l (cj.c 7) .z) <| ye <| qd (rS (rB (rS (rB (rS (rB (rS (yR1 (.bool ((p.text).toList == (ByteArray.empty).toList)) ?_)))))))); refine ⟨zc ?_, Up.ch bC⟩; unfold qs qbq
        try rw [show (p.text.toList == ByteArray.empty.toList) = zb p.text from rfl]
        simp [g, h, j, k, q, r, t, A, a5, a7, bA, ck]
       have cl := aa; refine yz 12 <| qd (rS (rB (rS (rB (rS (rB (rS (yR1 (.bool false) ?_)))))))); refine ⟨zc ?_, Up.ch bC⟩; unfold qs qbq
       try rw [show (p.text.toList == ByteArray.empty.toList) = zb p.text from rfl]
       simp [g, h, j, k, q, r, t, A, a5, a7, bA, cl]
      have cm := a9; refine yz 12 <| qd (rS (rB (rS (rB (rS (rB (rS (yR1 (.bool false) ?_)))))))); refine ⟨zc ?_, Up.ch bx⟩; unfold qs qbq
      try rw [show (p.text.toList == ByteArray.empty.toList) = zb p.text from rfl]
      simp [g, h, j, k, q, r, t, A, a5, a7, cm]
     have dw := a6; exfalso; omega
    have C := a4; refine q7 <| yz 2 <| yc (rE p.state 4) (fun ab => ?_) fun ab => ?_
    ·have ac := ab; refine qk (eS (eS (eB (eS (eB (eS (eB (eS (qe (nS ?_)))))))))); refine ys <| ysr <| yp 1 [] (.a (d.cs 0 9) .z) <| yo (yQ (qco p pa pn pc _) fun dx ad => ?_); have bD := zu f ad iZ; have cn := Rd.ch P ad iZ; have bE := d.ch ad id; refine yq 3 <| yw [83] (rY (qaU 0 qby p.marks)) (fun ae => ?_) fun ae => ?_
     ·have bF := ae; refine yp 4 [] (.a (bE.cs 0 9) .z) <| yo (yQ (qeC p pa pn pc _ cn hl hz hn) fun dy bG => ?_); have bH := zu bD bG iZ; have co := bE.ch bG id; refine yq 7 <| yw [87] (rY (qem p.params)) (fun af => ?_) fun af => ?_
      ·have cp := af; refine yp 12 [] (.l (co.c 7) .z) <| ye <| qd (rS (rB (rS (rB (rS (rB (rS (yR1 (.bool ((p.text).toList == (ByteArray.empty).toList)) ?_)))))))); refine ⟨zc ?_, Up.ch bH⟩; unfold qs qbq
       try rw [show (p.text.toList == ByteArray.empty.toList) = zb p.text from rfl]
       simp [g, h, j, k, q, r, t, A, C, ac, bF, cp]
      have cq := af; refine yz 12 <| qd (rS (rB (rS (rB (rS (rB (rS (yR1 (.bool false) ?_)))))))); refine ⟨zc ?_, Up.ch bH⟩; unfold qs qbq
      try rw [show (p.text.toList == ByteArray.empty.toList) = zb p.text from rfl]
      simp [g, h, j, k, q, r, t, A, C, ac, bF, cq]
     have cr := ae; refine yz 12 <| qd (rS (rB (rS (rB (rS (rB (rS (yR1 (.bool false) ?_)))))))); refine ⟨zc ?_, Up.ch bD⟩; unfold qs qbq
     try rw [show (p.text.toList == ByteArray.empty.toList) = zb p.text from rfl]
     simp [g, h, j, k, q, r, t, A, C, ac, cr]
    have G := ab; refine yk <| ys <| yx 2 <| yc (rE p.state 7) (fun ag => ?_) fun ag => ?_
    ·have dz := ag; exfalso; omega
    have H := ag; refine yk <| ys <| yx 2 <| yc (rE p.state 5) (fun ah => ?_) fun ah => ?_
    ·have bI := ah; refine yk <| yc (rE p.state 5) (fun ai => ?_) fun ai => ?_
     ·have bJ := ai; refine qk (eS (eB (eS (eB (eS (eB (eS (eB (eS (eB (eS (qe (nS ?_))))))))))))); refine ys <| ysr <| yq 2 <| yw [101] (rE ((pn : Nat) : Int) 0) (fun ct => ?_) fun ct => ?_
      ·have cu : (p.params.length == 0) = true := by rw [hl]; first | (rw [beq_iff_eq]; omega) | (rw [beq_eq_false_iff_ne]; omega)
       refine yp 3 [] (.a (d.cs 0 9) .z) <| yo (yQ (qjO p pa pn pc _ htz) fun dA cv => ?_); have cw := zu f cv iZ; refine yz 6 <| qd (rS (rB (rS (yR1 (.bool (qe6 p.text)) ?_)))); refine ⟨zc ?_, Up.ch cw⟩; unfold qs qbq
       try rw [show (p.text.toList == ByteArray.empty.toList) = zb p.text from rfl]
       simp [g, h, j, k, q, r, t, A, C, G, H, bI, bJ, cu]
      have cx : (p.params.length == 0) = false := by rw [hl]; first | (rw [beq_iff_eq]; omega) | (rw [beq_eq_false_iff_ne]; omega)
      refine yz 6 <| qd (rS (rB (rS (yR1 (.bool false) ?_)))); refine ⟨zc ?_, Up.ch f⟩; unfold qs qbq
      try rw [show (p.text.toList == ByteArray.empty.toList) = zb p.text from rfl]
      simp [g, h, j, k, q, r, t, A, C, G, H, bI, bJ, cx]
     have dB := ai; exfalso; omega
    have aj := ah; refine q7 <| yz 2 <| yc (rE p.state 6) (fun ak => ?_) fun ak => ?_
    ·have bK := ak; refine qk (eS (eB (eS (eB (eS (eB (eS (eB (eS (eB (eS (qe (nS ?_))))))))))))); refine ys <| ysr <| yq 2 <| yw [101] (rE ((pn : Nat) : Int) 0) (fun cy => ?_) fun cy => ?_
     ·have cz : (p.params.length == 0) = true := by rw [hl]; first | (rw [beq_iff_eq]; omega) | (rw [beq_eq_false_iff_ne]; omega)
      refine yp 3 [] (.a (d.cs 0 9) .z) <| yo (yQ (qjO p pa pn pc _ htz) fun dC cA => ?_); have cB := zu f cA iZ; refine yz 6 <| qd (rS (rB (rS (yR1 (.bool (qe6 p.text)) ?_)))); refine ⟨zc ?_, Up.ch cB⟩; unfold qs qbq
      try rw [show (p.text.toList == ByteArray.empty.toList) = zb p.text from rfl]
      simp [g, h, j, k, q, r, t, A, C, G, H, aj, bK, cz]
     have cC : (p.params.length == 0) = false := by rw [hl]; first | (rw [beq_iff_eq]; omega) | (rw [beq_eq_false_iff_ne]; omega)
     refine yz 6 <| qd (rS (rB (rS (yR1 (.bool false) ?_)))); refine ⟨zc ?_, Up.ch f⟩; unfold qs qbq
     try rw [show (p.text.toList == ByteArray.empty.toList) = zb p.text from rfl]
     simp [g, h, j, k, q, r, t, A, C, G, H, aj, bK, cC]
    have cD := ak; refine yk <| qk (eB (eS (eB (eS (eB (eS (eB (eS (eB (eS (eB (eS (qe (nS ?_)))))))))))))); refine yx 1 <| qd (yR1 (.bool false) ?_); refine ⟨zc ?_, Up.ch f⟩; unfold qs qbq
    try rw [show (p.text.toList == ByteArray.empty.toList) = zb p.text from rfl]
    simp [g, h, j, k, q, r, t, A, C, G, H, aj, cD]
   have al := W; refine yz 17 <| ycf <| yk <| ys <| ysr <| yp 2 [] (.l (d.c 0) .z) <| ye <| q8 <| ys <| q8 <| ys <| q8 <| ys <| q8 <| ys <| q8 <| ys <| q8 <| ys <| q8 <| ys <| ys <| yx 2 <| yc (rE p.state 0) (fun am => ?_) fun am => ?_
   ·have an := am; refine qk (eS (eS (qe (nS ?_)))); refine ys <| ysr <| yp 2 [] (.a (d.cs 1 4) .z) <| yo (yQ (qmT p.utf _ bs ho) fun dD bL => ?_); have ao := zu f bL iZ; have cE := d.ch bL id; refine yq 4 <| yw [54] (rY (utB p.utf)) (fun ap => ?_) fun ap => ?_
    ·have bM := ap; refine yq 7 <| yw [57] (rE ((pn : Nat) : Int) 0) (fun cF => ?_) fun cF => ?_
     ·have cG : (p.params.length == 0) = true := by rw [hl]; first | (rw [beq_iff_eq]; omega) | (rw [beq_eq_false_iff_ne]; omega)
      refine yp 12 [] (.l (cE.c 7) .z) <| ye <| qd (rS (rB (rS (rB (rS (rB (rS (rB (rS (rB (rS (rB (rS (yR1 (.bool ((p.text).toList == (ByteArray.empty).toList)) ?_)))))))))))))); refine ⟨zc ?_, Up.ch ao⟩; unfold qs qbq
      try rw [show (p.text.toList == ByteArray.empty.toList) = zb p.text from rfl]
      simp [g, h, j, al, an, bM, cG]
     have cH : (p.params.length == 0) = false := by rw [hl]; first | (rw [beq_iff_eq]; omega) | (rw [beq_eq_false_iff_ne]; omega)
     refine yz 12 <| qd (rS (rB (rS (rB (rS (rB (rS (rB (rS (rB (rS (rB (rS (yR1 (.bool false) ?_)))))))))))))); refine ⟨zc ?_, Up.ch ao⟩; unfold qs qbq
     try rw [show (p.text.toList == ByteArray.empty.toList) = zb p.text from rfl]
     simp [g, h, j, al, an, bM, cH]
    have cI := ap; refine yz 12 <| qd (rS (rB (rS (rB (rS (rB (rS (rB (rS (rB (rS (rB (rS (yR1 (.bool false) ?_)))))))))))))); refine ⟨zc ?_, Up.ch ao⟩; unfold qs qbq
    try rw [show (p.text.toList == ByteArray.empty.toList) = zb p.text from rfl]
    simp [g, h, j, al, an, cI]
   have dE := am; exfalso; omega
  have D := U; refine yp 13 [] (.l (d.c 0) .z) <| yw [30] (rI p.state 0) (fun aq => ?_) fun aq => ?_
  ·have E := aq; refine yz 17 <| yc (rN (rY ((((p.utf.b0 : Int) == 0) && (((p.utf.b1 : Int) == 0) && (((p.utf.b2 : Int) == 0) && true))) && (((p.utf.n : Int) == 0) && true)))) (fun ar => ?_) fun ar => ?_
   ·have cJ : qcu p.utf = false := by rw [← ar]; unfold qcu; simp [Bool.and_assoc]
    refine yx 1 <| qd (rS (yR1 (.bool false) ?_)); refine ⟨zc ?_, Up.ch f⟩; unfold qs qbq
    try rw [show (p.text.toList == ByteArray.empty.toList) = zb p.text from rfl]
    simp [g, D, E, cJ]
   have I : qcu p.utf = true := by rw [← ar]; unfold qcu; simp [Bool.and_assoc]
   refine yk <| ys <| ysr <| yp 2 [] (.l (d.c 0) .z) <| ye <| q8 <| ys <| q8 <| ys <| q8 <| ys <| q8 <| ys <| q8 <| ys <| q8 <| ys <| q8 <| ys <| ys <| yx 2 <| yc (rE p.state 0) (fun au => ?_) fun au => ?_
   ·have dF := au; exfalso; omega
   have J := au; refine yk <| ys <| yx 2 <| yc (rE p.state 1) (fun av => ?_) fun av => ?_
   ·have dG := av; exfalso; omega
   have K := av; refine yk <| ys <| yx 2 <| yc (rE p.state 2) (fun aw => ?_) fun aw => ?_
   ·have dH := aw; exfalso; omega
   have L := aw; refine yk <| ys <| ys <| yx 2 <| yc (rE p.state 3) (fun ax => ?_) fun ax => ?_
   ·have dI := ax; exfalso; omega
   have M := ax; refine q7 <| yz 2 <| yc (rE p.state 4) (fun ay => ?_) fun ay => ?_
   ·have dJ := ay; exfalso; omega
   have N := ay; refine yk <| ys <| yx 2 <| yc (rE p.state 7) (fun az => ?_) fun az => ?_
   ·have O := az; refine qk (eS (eS (eB (eS (eB (eS (eB (eS (eB (eS (qe (nS ?_)))))))))))); refine ysr <| yp 4 [] (.l (d.c 8) .z) <| yw [95] (rI p.within 5) (fun aA => ?_) fun aA => ?_
    ·have aB := aA; refine yp 8 [] (.l (d.c 8) .z) <| ye <| yc (rI p.within 6) (fun aC => ?_) fun aC => ?_
     ·have cK := aC; refine yx 1 <| qd (rB (rS (rB (rS (yR1 (.bool false) ?_))))); refine ⟨zc ?_, Up.ch f⟩; unfold qs qbq
      try rw [show (p.text.toList == ByteArray.empty.toList) = zb p.text from rfl]
      simp [g, D, E, I, J, K, L, M, N, O, aB, cK]
     have bN := aC; refine qp (nB (nS ?_)); refine ys <| ysr <| yq 2 <| yw [101] (rE ((pn : Nat) : Int) 0) (fun cL => ?_) fun cL => ?_
     ·have cM : (p.params.length == 0) = true := by rw [hl]; first | (rw [beq_iff_eq]; omega) | (rw [beq_eq_false_iff_ne]; omega)
      refine yp 3 [] (.a (d.cs 0 9) .z) <| yo (yQ (qjO p pa pn pc _ htz) fun dK cN => ?_); have cO := zu f cN iZ; refine yz 6 <| qd (rS (rB (rS (yR1 (.bool (qe6 p.text)) ?_)))); refine ⟨zc ?_, Up.ch cO⟩; unfold qs qbq
      try rw [show (p.text.toList == ByteArray.empty.toList) = zb p.text from rfl]
      simp [g, D, E, I, J, K, L, M, N, O, aB, bN, cM]
     have cP : (p.params.length == 0) = false := by rw [hl]; first | (rw [beq_iff_eq]; omega) | (rw [beq_eq_false_iff_ne]; omega)
     refine yz 6 <| qd (rS (rB (rS (yR1 (.bool false) ?_)))); refine ⟨zc ?_, Up.ch f⟩; unfold qs qbq
     try rw [show (p.text.toList == ByteArray.empty.toList) = zb p.text from rfl]
     simp [g, D, E, I, J, K, L, M, N, O, aB, bN, cP]
    have bO := aA; refine yz 8 <| ycf <| qp (nB (nS ?_)); refine ys <| ysr <| yq 2 <| yw [101] (rE ((pn : Nat) : Int) 0) (fun cQ => ?_) fun cQ => ?_
    ·have cR : (p.params.length == 0) = true := by rw [hl]; first | (rw [beq_iff_eq]; omega) | (rw [beq_eq_false_iff_ne]; omega)
     refine yp 3 [] (.a (d.cs 0 9) .z) <| yo (yQ (qjO p pa pn pc _ htz) fun dL cS => ?_); have cT := zu f cS iZ; refine yz 6 <| qd (rS (rB (rS (yR1 (.bool (qe6 p.text)) ?_)))); refine ⟨zc ?_, Up.ch cT⟩; unfold qs qbq
     try rw [show (p.text.toList == ByteArray.empty.toList) = zb p.text from rfl]
     simp [g, D, E, I, J, K, L, M, N, O, bO, cR]
    have cU : (p.params.length == 0) = false := by rw [hl]; first | (rw [beq_iff_eq]; omega) | (rw [beq_eq_false_iff_ne]; omega)
    refine yz 6 <| qd (rS (rB (rS (yR1 (.bool false) ?_)))); refine ⟨zc ?_, Up.ch f⟩; unfold qs qbq
    try rw [show (p.text.toList == ByteArray.empty.toList) = zb p.text from rfl]
    simp [g, D, E, I, J, K, L, M, N, O, bO, cU]
   have dM := az; exfalso; omega
  have dN := aq; exfalso; omega
 have i : zb p.marks = false := T; refine yz 10 <| ys <| ysr <| yp 4 [] (.l (d.c 0) .z) <| yw [21] (rI p.state 7) (fun aD => ?_) fun aD => ?_
 ·have m := aD; refine yp 9 [] (.l (d.c 8) .z) <| yw [26] (rI p.within 0) (fun aE => ?_) fun aE => ?_
  ·have cV := aE; refine yz 17 <| yct <| yx 1 <| qd (rS (yR1 (.bool false) ?_)); refine ⟨zc ?_, Up.ch f⟩; unfold qs qbq
   try rw [show (p.text.toList == ByteArray.empty.toList) = zb p.text from rfl]
   simp [i, m, cV]
  have s := aE; refine yp 13 [] (.l (d.c 0) .z) <| yw [30] (rI p.state 0) (fun aF => ?_) fun aF => ?_
  ·have u := aF; refine yz 17 <| yc (rN (rY ((((p.utf.b0 : Int) == 0) && (((p.utf.b1 : Int) == 0) && (((p.utf.b2 : Int) == 0) && true))) && (((p.utf.n : Int) == 0) && true)))) (fun aG => ?_) fun aG => ?_
   ·have cW : qcu p.utf = false := by rw [← aG]; unfold qcu; simp [Bool.and_assoc]
    refine yx 1 <| qd (rS (yR1 (.bool false) ?_)); refine ⟨zc ?_, Up.ch f⟩; unfold qs qbq
    try rw [show (p.text.toList == ByteArray.empty.toList) = zb p.text from rfl]
    simp [i, m, s, u, cW]
   have v : qcu p.utf = true := by rw [← aG]; unfold qcu; simp [Bool.and_assoc]
   refine yk <| ys <| ysr <| yp 2 [] (.l (d.c 0) .z) <| ye <| q8 <| ys <| q8 <| ys <| q8 <| ys <| q8 <| ys <| q8 <| ys <| q8 <| ys <| q8 <| ys <| ys <| yx 2 <| yc (rE p.state 0) (fun aH => ?_) fun aH => ?_
   ·have dO := aH; exfalso; omega
   have x := aH; refine yk <| ys <| yx 2 <| yc (rE p.state 1) (fun aI => ?_) fun aI => ?_
   ·have cX := aI; refine qk (eS (eS (eB (eS (qe (nS ?_)))))); refine ys <| yx 7 <| qd (rS (rB (rS (rB (rS (rB (rS (rB (rS (rB (rS (yR1 (.bool false) ?_)))))))))))); refine ⟨zc ?_, Up.ch f⟩; unfold qs qbq
    try rw [show (p.text.toList == ByteArray.empty.toList) = zb p.text from rfl]
    simp [i, m, s, u, v, x, cX]
   have y := aI; refine yk <| ys <| yx 2 <| yc (rE p.state 2) (fun aJ => ?_) fun aJ => ?_
   ·have aK := aJ; refine qk (eS (eS (eB (eS (eB (eS (qe (nS ?_)))))))); refine ys <| ysr <| yp 1 [] (.a (d.cs 0 9) .z) <| yo (yQ (qg3 p pa pn pc _) fun dP bP => ?_); have aL := zu f bP iZ; have bQ := d.ch bP id; refine yq 3 <| yw [70] (rY (qaU 1 qiK p.marks)) (fun aM => ?_) fun aM => ?_
    ·have bR := aM; refine yp 9 [] (.l (bQ.c 6) .z) <| yw [76] (rE ((pn : Nat) : Int) 0) (fun cY => ?_) fun cY => ?_
     ·have cZ : (p.params.length == 0) = true := by rw [hl]; first | (rw [beq_iff_eq]; omega) | (rw [beq_eq_false_iff_ne]; omega)
      refine yp 14 [] (.l (bQ.c 7) .z) <| ye <| qd (rS (rB (rS (rB (rS (rB (rS (rB (rS (yR1 (.bool ((p.text).toList == (ByteArray.empty).toList)) ?_)))))))))); refine ⟨zc ?_, Up.ch aL⟩; unfold qs qbq
      try rw [show (p.text.toList == ByteArray.empty.toList) = zb p.text from rfl]
      simp [i, m, s, u, v, x, y, aK, bR, cZ]
     have d0 : (p.params.length == 0) = false := by rw [hl]; first | (rw [beq_iff_eq]; omega) | (rw [beq_eq_false_iff_ne]; omega)
     refine yz 14 <| qd (rS (rB (rS (rB (rS (rB (rS (rB (rS (yR1 (.bool false) ?_)))))))))); refine ⟨zc ?_, Up.ch aL⟩; unfold qs qbq
     try rw [show (p.text.toList == ByteArray.empty.toList) = zb p.text from rfl]
     simp [i, m, s, u, v, x, y, aK, bR, d0]
    have d1 := aM; refine yz 14 <| qd (rS (rB (rS (rB (rS (rB (rS (rB (rS (yR1 (.bool false) ?_)))))))))); refine ⟨zc ?_, Up.ch aL⟩; unfold qs qbq
    try rw [show (p.text.toList == ByteArray.empty.toList) = zb p.text from rfl]
    simp [i, m, s, u, v, x, y, aK, d1]
   have B := aJ; refine yk <| ys <| ys <| yx 2 <| yc (rE p.state 3) (fun aN => ?_) fun aN => ?_
   ·have aO := aN; refine yk <| yc (rE p.state 3) (fun aP => ?_) fun aP => ?_
    ·have aQ := aP; refine qk (eS (eS (eB (eS (eB (eS (eB (eS (qe (nS ?_)))))))))); refine ys <| ysr <| yp 1 [] (.a (d.cs 0 9) .z) <| yo (yQ (qco p pa pn pc _) fun dQ aR => ?_); have bS := zu f aR iZ; have d2 := Rd.ch P aR iZ; have bT := d.ch aR id; refine yq 3 <| yw [83] (rY (qaU 0 qby p.marks)) (fun aS => ?_) fun aS => ?_
     ·have bU := aS; refine yp 4 [] (.a (bT.cs 0 9) .z) <| yo (yQ (qeC p pa pn pc _ d2 hl hz hn) fun dR bV => ?_); have bW := zu bS bV iZ; have d3 := bT.ch bV id; refine yq 7 <| yw [87] (rY (qem p.params)) (fun aT => ?_) fun aT => ?_
      ·have d4 := aT; refine yp 12 [] (.l (d3.c 7) .z) <| ye <| qd (rS (rB (rS (rB (rS (rB (rS (yR1 (.bool ((p.text).toList == (ByteArray.empty).toList)) ?_)))))))); refine ⟨zc ?_, Up.ch bW⟩; unfold qs qbq
       try rw [show (p.text.toList == ByteArray.empty.toList) = zb p.text from rfl]
       simp [i, m, s, u, v, x, y, B, aO, aQ, bU, d4]
      have d5 := aT; refine yz 12 <| qd (rS (rB (rS (rB (rS (rB (rS (yR1 (.bool false) ?_)))))))); refine ⟨zc ?_, Up.ch bW⟩; unfold qs qbq
      try rw [show (p.text.toList == ByteArray.empty.toList) = zb p.text from rfl]
      simp [i, m, s, u, v, x, y, B, aO, aQ, bU, d5]
     have d6 := aS; refine yz 12 <| qd (rS (rB (rS (rB (rS (rB (rS (yR1 (.bool false) ?_)))))))); refine ⟨zc ?_, Up.ch bS⟩; unfold qs qbq
     try rw [show (p.text.toList == ByteArray.empty.toList) = zb p.text from rfl]
     simp [i, m, s, u, v, x, y, B, aO, aQ, d6]
    have dS := aP; exfalso; omega
   have F := aN; refine q7 <| yz 2 <| yc (rE p.state 4) (fun aU => ?_) fun aU => ?_
   ·have aV := aU; refine qk (eS (eS (eB (eS (eB (eS (eB (eS (qe (nS ?_)))))))))); refine ys <| ysr <| yp 1 [] (.a (d.cs 0 9) .z) <| yo (yQ (qco p pa pn pc _) fun dT aW => ?_); have bX := zu f aW iZ; have d7 := Rd.ch P aW iZ; have bY := d.ch aW id; refine yq 3 <| yw [83] (rY (qaU 0 qby p.marks)) (fun aX => ?_) fun aX => ?_
    ·have bZ := aX; refine yp 4 [] (.a (bY.cs 0 9) .z) <| yo (yQ (qeC p pa pn pc _ d7 hl hz hn) fun dU c0 => ?_); have c1 := zu bX c0 iZ; have d8 := bY.ch c0 id; refine yq 7 <| yw [87] (rY (qem p.params)) (fun aY => ?_) fun aY => ?_
     ·have d9 := aY; refine yp 12 [] (.l (d8.c 7) .z) <| ye <| qd (rS (rB (rS (rB (rS (rB (rS (yR1 (.bool ((p.text).toList == (ByteArray.empty).toList)) ?_)))))))); refine ⟨zc ?_, Up.ch c1⟩; unfold qs qbq
      try rw [show (p.text.toList == ByteArray.empty.toList) = zb p.text from rfl]
      simp [i, m, s, u, v, x, y, B, F, aV, bZ, d9]
     have da := aY; refine yz 12 <| qd (rS (rB (rS (rB (rS (rB (rS (yR1 (.bool false) ?_)))))))); refine ⟨zc ?_, Up.ch c1⟩; unfold qs qbq
     try rw [show (p.text.toList == ByteArray.empty.toList) = zb p.text from rfl]
     simp [i, m, s, u, v, x, y, B, F, aV, bZ, da]
    have db := aX; refine yz 12 <| qd (rS (rB (rS (rB (rS (rB (rS (yR1 (.bool false) ?_)))))))); refine ⟨zc ?_, Up.ch bX⟩; unfold qs qbq
    try rw [show (p.text.toList == ByteArray.empty.toList) = zb p.text from rfl]
    simp [i, m, s, u, v, x, y, B, F, aV, db]
   have aZ := aU; refine yk <| ys <| yx 2 <| yc (rE p.state 7) (fun b3 => ?_) fun b3 => ?_
   ·have dV := b3; exfalso; omega
   have b4 := b3; refine yk <| ys <| yx 2 <| yc (rE p.state 5) (fun b5 => ?_) fun b5 => ?_
   ·have dc := b5; refine yk <| yc (rE p.state 5) (fun b6 => ?_) fun b6 => ?_
    ·have dd := b6; refine qk (eS (eB (eS (eB (eS (eB (eS (eB (eS (eB (eS (qe (nS ?_))))))))))))); refine ys <| yx 6 <| qd (rS (rB (rS (yR1 (.bool false) ?_)))); refine ⟨zc ?_, Up.ch f⟩; unfold qs qbq
     try rw [show (p.text.toList == ByteArray.empty.toList) = zb p.text from rfl]
     simp [i, m, s, u, v, x, y, B, F, aZ, b4, dc, dd]
    have dW := b6; exfalso; omega
   have c2 := b5; refine q7 <| yz 2 <| yc (rE p.state 6) (fun b7 => ?_) fun b7 => ?_
   ·have de := b7; refine qk (eS (eB (eS (eB (eS (eB (eS (eB (eS (eB (eS (qe (nS ?_))))))))))))); refine ys <| yx 6 <| qd (rS (rB (rS (yR1 (.bool false) ?_)))); refine ⟨zc ?_, Up.ch f⟩; unfold qs qbq
    try rw [show (p.text.toList == ByteArray.empty.toList) = zb p.text from rfl]
    simp [i, m, s, u, v, x, y, B, F, aZ, b4, c2, de]
   have df := b7; refine yk <| qk (eB (eS (eB (eS (eB (eS (eB (eS (eB (eS (eB (eS (qe (nS ?_)))))))))))))); refine yx 1 <| qd (yR1 (.bool false) ?_); refine ⟨zc ?_, Up.ch f⟩; unfold qs qbq
   try rw [show (p.text.toList == ByteArray.empty.toList) = zb p.text from rfl]
   simp [i, m, s, u, v, x, y, B, F, aZ, b4, c2, df]
  have c3 := aF; refine yz 17 <| ycf <| yk <| ys <| ysr <| yp 2 [] (.l (d.c 0) .z) <| ye <| q8 <| ys <| q8 <| ys <| q8 <| ys <| q8 <| ys <| q8 <| ys <| q8 <| ys <| q8 <| ys <| ys <| yx 2 <| yc (rE p.state 0) (fun b8 => ?_) fun b8 => ?_
  ·have c4 := b8; refine qk (eS (eS (qe (nS ?_)))); refine ys <| ysr <| yp 2 [] (.a (d.cs 1 4) .z) <| yo (yQ (qmT p.utf _ bs ho) fun dX dg => ?_); have c5 := zu f dg iZ; refine yq 4 <| yw [54] (rY (utB p.utf)) (fun b9 => ?_) fun b9 => ?_
   ·have dh := b9; refine yz 12 <| qd (rS (rB (rS (rB (rS (rB (rS (rB (rS (rB (rS (rB (rS (yR1 (.bool false) ?_)))))))))))))); refine ⟨zc ?_, Up.ch c5⟩; unfold qs qbq
    try rw [show (p.text.toList == ByteArray.empty.toList) = zb p.text from rfl]
    simp [i, m, s, c3, c4, dh]
   have di := b9; refine yz 12 <| qd (rS (rB (rS (rB (rS (rB (rS (rB (rS (rB (rS (rB (rS (yR1 (.bool false) ?_)))))))))))))); refine ⟨zc ?_, Up.ch c5⟩; unfold qs qbq
   try rw [show (p.text.toList == ByteArray.empty.toList) = zb p.text from rfl]
   simp [i, m, s, c3, c4, di]
  have dY := b8; exfalso; omega
 have Q := aD; refine yp 13 [] (.l (d.c 0) .z) <| yw [30] (rI p.state 0) (fun ba => ?_) fun ba => ?_
 ·have R := ba; refine yz 17 <| yc (rN (rY ((((p.utf.b0 : Int) == 0) && (((p.utf.b1 : Int) == 0) && (((p.utf.b2 : Int) == 0) && true))) && (((p.utf.n : Int) == 0) && true)))) (fun bb => ?_) fun bb => ?_
  ·have dj : qcu p.utf = false := by rw [← bb]; unfold qcu; simp [Bool.and_assoc]
   refine yx 1 <| qd (rS (yR1 (.bool false) ?_)); refine ⟨zc ?_, Up.ch f⟩; unfold qs qbq
   try rw [show (p.text.toList == ByteArray.empty.toList) = zb p.text from rfl]
   simp [i, Q, R, dj]
  have bc : qcu p.utf = true := by rw [← bb]; unfold qcu; simp [Bool.and_assoc]
  refine yk <| ys <| ysr <| yp 2 [] (.l (d.c 0) .z) <| ye <| q8 <| ys <| q8 <| ys <| q8 <| ys <| q8 <| ys <| q8 <| ys <| q8 <| ys <| q8 <| ys <| ys <| yx 2 <| yc (rE p.state 0) (fun bd => ?_) fun bd => ?_
  ·have dZ := bd; exfalso; omega
  have bf := bd; refine yk <| ys <| yx 2 <| yc (rE p.state 1) (fun bg => ?_) fun bg => ?_
  ·have e0 := bg; exfalso; omega
  have bh := bg; refine yk <| ys <| yx 2 <| yc (rE p.state 2) (fun bi => ?_) fun bi => ?_
  ·have e1 := bi; exfalso; omega
  have bj := bi; refine yk <| ys <| ys <| yx 2 <| yc (rE p.state 3) (fun bk => ?_) fun bk => ?_
  ·have e2 := bk; exfalso; omega
  have bl := bk; refine q7 <| yz 2 <| yc (rE p.state 4) (fun bm => ?_) fun bm => ?_
  ·have e3 := bm; exfalso; omega
  have bn := bm; refine yk <| ys <| yx 2 <| yc (rE p.state 7) (fun bo => ?_) fun bo => ?_
  ·have bp := bo; refine qk (eS (eS (eB (eS (eB (eS (eB (eS (eB (eS (qe (nS ?_)))))))))))); refine ysr <| yp 4 [] (.l (d.c 8) .z) <| yw [95] (rI p.within 5) (fun bq => ?_) fun bq => ?_
   ·have c6 := bq; refine yp 8 [] (.l (d.c 8) .z) <| ye <| yc (rI p.within 6) (fun br => ?_) fun br => ?_
    ·have dk := br; refine yx 1 <| qd (rB (rS (rB (rS (yR1 (.bool false) ?_))))); refine ⟨zc ?_, Up.ch f⟩; unfold qs qbq
     try rw [show (p.text.toList == ByteArray.empty.toList) = zb p.text from rfl]
     simp [i, Q, R, bc, bf, bh, bj, bl, bn, bp, c6, dk]
    have dl := br; refine qp (nB (nS ?_)); refine ys <| yx 6 <| qd (rS (rB (rS (yR1 (.bool false) ?_)))); refine ⟨zc ?_, Up.ch f⟩; unfold qs qbq
    try rw [show (p.text.toList == ByteArray.empty.toList) = zb p.text from rfl]
    simp [i, Q, R, bc, bf, bh, bj, bl, bn, bp, c6, dl]
   have dm := bq; refine yz 8 <| ycf <| qp (nB (nS ?_)); refine ys <| yx 6 <| qd (rS (rB (rS (yR1 (.bool false) ?_)))); refine ⟨zc ?_, Up.ch f⟩; unfold qs qbq
   try rw [show (p.text.toList == ByteArray.empty.toList) = zb p.text from rfl]
   simp [i, Q, R, bc, bf, bh, bj, bl, bn, bp, dm]
  have e4 := bo; exfalso; omega
 have e5 := ba; exfalso; omega
theorem qd4 {P : Program} {N : Nat} {Q : Exit → Act → World → Prop} {f : Fr} {w : World} {x y : Code} {σ : Type} (f' : σ → Fr) (I : σ → World → Prop)
  (h1 : ∀ K : Act → World → Prop, (∀ s u, I s u → ∀ a, Has N (f' s) a → K a u) → WC P N (Exit.then K Q) x f w) (h2 : ∀ s u, I s u → WC P N Q y (f' s) u) : WC P N Q (.seq x y) f w :=
 x_seq fun K hK => h1 K fun s u hI a ha => hK (f' s) u (h2 s u hI) a ha
abbrev tSr : TypeId := 77
structure RowO where
 b : Option Nat
 n : Nat
 cap : Nat
 l : List Cel
def RowO.val (x : RowO) : Value := .slice (x.b.map at0) x.n x.cap
structure RowsO (w : World) (m : Nat) (rows : List RowO) : Prop where
 line : ∀ x ∈ rows, Own w qcy 6 x.b x.n x.cap (qX x.l) ∧ x.l.length = x.n
 lo : ∀ x ∈ rows, ∀ b, x.b = some b → m ≤ b
 nd : rows.Pairwise fun x y => ∀ b, x.b = some b → y.b ≠ some b
structure OutO (w : World) (m : Nat) (o : Option Nat) (n cap : Nat) (rows : List RowO) : Prop where
 own : Own w qbr 1 o n cap (rows.map RowO.val)
 lo : ∀ b, o = some b → m ≤ b
 rs : RowsO w m rows
theorem rowO_one (rows : List RowO) : ((rows.map RowO.val).all fun c => c.oneCell') = true := by
 refine List.all_eq_true.2 fun v hv => ?_
 obtain ⟨x, _, rfl⟩ := List.mem_map.1 hv
 rfl
section
variable {w w' : World} {m n cap : Nat} {o : Option Nat} {rows : List RowO} {B : Nat → Prop}
theorem OutO.nil (w : World) (m : Nat) : OutO w m none 0 0 [] := ⟨Own.nil _ _ _, (fun b e => by cases e), ⟨(fun x hx => by cases hx), (fun x hx => by cases hx), List.Pairwise.nil⟩⟩
theorem RowsO.ch (h : RowsO w m rows) (hc : Ch B w w') (hB : ∀ x ∈ rows, ∀ b, x.b = some b → ¬ B b) : RowsO w' m rows :=
 ⟨fun x hx => ⟨(h.line x hx).1.ch hc fun g e => hB x hx g e, (h.line x hx).2⟩, h.lo, h.nd⟩
theorem RowsO.lt (h : RowsO w m rows) : ∀ x ∈ rows, ∀ b, x.b = some b → b < w.heap.size := fun x hx b e => by
 have := (h.line x hx).1
 rw [e] at this
 exact this.lt
theorem OutO.ch (h : OutO w m o n cap rows) (hc : Ch B w w') (hB : ∀ b, m ≤ b → b < w.heap.size → ¬ B b) : OutO w' m o n cap rows :=
 ⟨h.own.ch hc fun g e => hB g (h.lo g e) (by have := h.own; rw [e] at this; exact this.lt), h.lo, h.rs.ch hc fun x hx b e => hB b (h.rs.lo x hx b e) (h.rs.lt x hx b e)⟩
theorem OutO.len (h : OutO w m o n cap rows) : rows.length = n := by
 have := h.own.1
 rwa [List.length_map, Nat.mul_one] at this
theorem OutO.low {m' : Nat} (h : OutO w m o n cap rows) (hm : m' ≤ m) : OutO w m' o n cap rows :=
 ⟨h.own, fun b e => Nat.le_trans hm (h.lo b e), ⟨h.rs.line, fun x hx b e => Nat.le_trans hm (h.rs.lo x hx b e), h.rs.nd⟩⟩
theorem OutO.off (h : OutO w m o n cap rows) {e : Option Nat} {k c : Nat} {xs : List Value} (ho : Own w qbr 1 e k c xs) : ∀ x ∈ rows, ∀ b, x.b = some b → ¬ e = some b := fun x hx b hb he => by
 obtain ⟨h1, h2⟩ := h.rs.line x hx
 rw [hb] at h1
 obtain ⟨r1, _, k1⟩ := h1.2.2.2.2 b rfl
 obtain ⟨r2, _, k2⟩ := ho.2.2.2.2 b he
 exact tys (k2.inj k1).2
theorem OutO.app {o' : Option Nat} {cap' n' : Nat} {rows' : List RowO} (h : OutO w m o n cap rows) (hr : RowsO w m rows') (hm : m ≤ w.heap.size) (hd : ∀ x ∈ rows, ∀ y ∈ rows', ∀ b, x.b = some b → y.b ≠ some b)
  (hO : Own w' qbr 1 o' n' cap' ((rows ++ rows').map RowO.val)) (hA : App w w' o o') : OutO w' m o' n' cap' (rows ++ rows') := by
 have hoff' : ∀ x ∈ rows', ∀ b, x.b = some b → ¬ o = some b := fun x hx b hb he => by
  obtain ⟨h1, h2⟩ := hr.line x hx
  rw [hb] at h1
  obtain ⟨r1, _, k1⟩ := h1.2.2.2.2 b rfl
  obtain ⟨r2, _, k2⟩ := h.own.2.2.2.2 b he
  exact tys (k2.inj k1).2
 refine ⟨hO, fun b e => ?_, ⟨fun x hx => ?_, fun x hx => ?_, ?_⟩⟩
 ·rcases hA.ne with rfl | ⟨g, rfl, hg⟩
  ·exact h.lo b e
  ·have := Option.some.inj e; omega
 ·rcases List.mem_append.1 hx with hx | hx
  ·exact ⟨(h.rs.line x hx).1.ch hA.ch fun g e => h.off h.own x hx g e, (h.rs.line x hx).2⟩
  ·exact ⟨(hr.line x hx).1.ch hA.ch fun g e => hoff' x hx g e, (hr.line x hx).2⟩
 ·rcases List.mem_append.1 hx with hx | hx
  ·exact h.rs.lo x hx
  ·exact hr.lo x hx
 ·exact List.pairwise_append.2 ⟨h.rs.nd, hr.nd, fun x hx y hy => hd x hx y hy⟩
theorem RowsO.one {b : Option Nat} {k c : Nat} {l : List Cel} (h : Own w qcy 6 b k c (qX l)) (hl : l.length = k) (hlo : ∀ y, b = some y → m ≤ y) : RowsO w m [⟨b, k, c, l⟩] :=
 ⟨fun x hx => by rw [List.mem_singleton.1 hx]; exact ⟨h, hl⟩, fun x hx => by rw [List.mem_singleton.1 hx]; exact hlo, List.pairwise_singleton _ _⟩
end
structure SrIn (w : World) (sr rv D : Nat) (fine : Bool) (s : RS) : Prop where
 blk : Blk w sr [.pointer (some ⟨rv, 0, none⟩), .bool fine] tSr
 rd : RdrAt w rv D s
 ne : ¬ sr = rv
 nd : ¬ sr = D
def srB (sr rv : Nat) : Nat → Prop := fun j => j = sr ∨ j = rv
set_option maxHeartbeats 4000000 in
theorem qdf {sr rv D : Nat} {s0 s1 : RS} {fine ok : Bool} {c : Cur} {W H : Int} {w : World} (hS : SrIn w sr rv D fine s0) (hC : qi2 W H s0 = (c, ok, s1)) (hW : 1 ≤ W ∧ W ≤ 60) (hH : 1 ≤ H ∧ H ≤ 60) : Calls Tryz.prog 33 [pX sr, iX W, iX H].toArray w fun e w' =>
 e = .returned (.agg #[iX c.x, iX c.y, .bool c.late, .bool c.sty.bold, .bool c.sty.under, .bool c.sty.turned, iX c.sty.fore, iX c.sty.back]) ∧ SrIn w' sr rv D (fine && ok) s1 ∧ Ch (srB sr rv) w w' := by
 obtain ⟨g, u1, E⟩ : ∃ x s', qO W s0 = (x, s') := ⟨_, _, rfl⟩
 obtain ⟨n, u2, v⟩ : ∃ x s', qO H u1 = (x, s') := ⟨_, _, rfl⟩
 obtain ⟨k, u3, p⟩ : ∃ x s', qO 2 u2 = (x, s') := ⟨_, _, rfl⟩
 have aE := qa3 (lim := W) (s := s0); have aF := qa3 (lim := H) (s := u1); have aG := qa3 (lim := 2) (s := u2); rw [E] at aE; rw [v] at aF; rw [p] at aG; dsimp only at aE aF aG; refine yA Tryz.func33 rfl <| ysr <| yo (yN [iX 0, iX 0, .bool false, .bool false, .bool false, .bool false, iX 0, iX 0] 46 fun aT d aU dP aV ao => ?_); have aW : Ch (srB sr rv) w aT := zt (Ch.refl (srB sr rv) w) ao eZ; have f : w.heap.size ≤ d := by rw [aU]; exact zs (Ch.refl (srB sr rv) w)
 have aX := hS.blk.ch ao id; have aY := hS.rd.ch ao id id; refine ye <| qd4 (σ := Nat) (fun m => [(0, pX sr), (1, iX W), (6, pX d), (7, pX m)]) (fun m u => Blk u d [iX 0, iX 0, .bool false, .bool false, .bool false, .bool false, iX 0, iX 0] 46 ∧ Blk u m [iX g, iX n, .bool ((k : Int) == 1), .bool false, .bool false, .bool false, iX 0, iX 0] 46 ∧ Blk u sr [pX rv, .bool fine] tSr ∧ RdrAt u rv D u3 ∧ Ch (srB sr rv) w u ∧ w.heap.size ≤ m ∧ ¬ m = d) (fun dQ a0 => ?_) (fun gs u22 aH => ?_)
 ·refine qY (· = rv) [16, 20] (by kernel_rfl) (fun aZ dR a1 => ?_); have ap : Ch (srB sr rv) w aZ := zt aW a1 eZ; have L := aX.ch a1 id; have aI := aY.ch a1 id id; have a2 := aV.ch a1 id; refine ydC [0, 1, 2, 3, 4, 6, 7, 8, 9, 10, 12, 13, 14, 15] [] (fun u hu => (.l (qg hu (L.c 0) hS.ne) (.l (qg hu (L.c 0) hS.ne) (.l (qg hu (L.c 0) hS.ne) .z)))) <| qbl 5 19 (by kernel_rfl) (by decide) ?_ ?_
  ·refine qav 5 _ (by kernel_rfl) rfl (yQ (qW (lim := W) aI E (by omega)) ?_); rintro b0 ⟨aJ, a3⟩; have aq : Ch (srB sr rv) w b0 := zt ap a3 (fun _ _ h => .inr h); have aK := L.ch a3 hS.ne; have a4 := a2.ch a3 (fun (h : d = rv) => by have := f; have := hS.rd.lt; omega); refine qo a3 iZ <| qbl 11 19 (by kernel_rfl) (by decide) ?_ ?_
   ·refine qav 11 _ (by kernel_rfl) rfl (yQ (qW (lim := H) aJ v (by omega)) ?_); rintro b1 ⟨aL, a5⟩; have ar : Ch (srB sr rv) w b1 := zt aq a5 (fun _ _ h => .inr h); have aM := aK.ch a5 hS.ne; have a6 := a4.ch a5 (fun (h : d = rv) => by have := f; have := hS.rd.lt; omega); refine qo a5 iZ <| qbl 16 19 (by kernel_rfl) (by decide) ?_ ?_
    ·refine qbD 16 _ (by kernel_rfl) rfl (yQ (qW (lim := 2) aL p (by omega)) ?_); rintro b2 ⟨b3, au⟩; have aN : Ch (srB sr rv) w b2 := zt ar au (fun _ _ h => .inr h); have b4 := aM.ch au hS.ne; have av := a6.ch au (fun (h : d = rv) => by have := f; have := hS.rd.lt; omega); refine qaw (B := fun j => j = rv) <| ydC [17, 18] [] (fun u hu => .z) <| yH 19 (yN [iX 0, iX 0, .bool false, .bool false, .bool false, .bool false, iX 0, iX 0] 46 fun b5 F b6 dS b8 M => ?_); have b9 : Ch (srB sr rv) w b5 := zt aN M eZ; have N := zn b6 aN; have ba := b4.ch M id; have bb := av.ch M id; have bc := b3.ch M id id; refine qo M eZ <| yK 20 (yT [iX g, iX n, .bool ((k : Int) == 1), .bool false, .bool false, .bool false, iX 0, iX 0] b8 fun bd bf a7 => ?_); have bg : Ch (srB sr rv) w bd := zt b9 a7 (fun i hi (h : i = F) => by have := N; omega); have bh := ba.ch a7 (fun (h : sr = F) => by have := N; have := hS.blk.lt; omega); have bi := bb.ch a7 (fun (h : d = F) => by have := av.lt; omega); have bj := bc.ch a7 (fun (h : rv = F) => by have := N; have := hS.rd.lt; omega) (fun (h : D = F) => by have := N; have := hS.rd.dlt; omega); refine q9 <| yDe (fun a ha => a0 F _ ⟨bi, bf, bh, bj, bg, N, (fun (h : F = d) => by have := av.lt; omega)⟩ a (ha.kp [0, 1, 6, 7]))
    refine qav 19 _ (by kernel_rfl) rfl (yN [iX 0, iX 0, .bool false, .bool false, .bool false, .bool false, iX 0, iX 0] 46 fun bk A bl dT bm O => ?_); have bn : Ch (srB sr rv) w bk := zt ar O eZ; have I := zn bl ar; have bo := aM.ch O id; have bp := a6.ch O id; have bq := aL.ch O id id; refine qo O eZ <| yK 16 (yQ (qW (lim := 2) bq p (by omega)) ?_); rintro br ⟨bs, a8⟩; have bt : Ch (srB sr rv) w br := zt bn a8 (fun _ _ h => .inr h); have bu := bo.ch a8 hS.ne; have bv := bp.ch a8 (fun (h : d = rv) => by have := f; have := hS.rd.lt; omega); have bw := bm.ch a8 (fun (h : A = rv) => by have := I; have := hS.rd.lt; omega); refine q9 <| yd [17, 18] [] .z <| yK 20 (yT [iX g, iX n, .bool ((k : Int) == 1), .bool false, .bool false, .bool false, iX 0, iX 0] bw fun bx bz a9 => ?_); have bA : Ch (srB sr rv) w bx := zt bt a9 (fun i hi (h : i = A) => by have := I; omega); have bB := bu.ch a9 (fun (h : sr = A) => by have := I; have := hS.blk.lt; omega); have bC := bv.ch a9 (fun (h : d = A) => by have := a6.lt; omega); have bD := bs.ch a9 (fun (h : rv = A) => by have := I; have := hS.rd.lt; omega) (fun (h : D = A) => by have := I; have := hS.rd.dlt; omega); refine q9 <| yDe (fun a ha => a0 A _ ⟨bC, bz, bB, bD, bA, I, (fun (h : A = d) => by have := a6.lt; omega)⟩ a (ha.kp [0, 1, 6, 7]))
   refine qav 19 _ (by kernel_rfl) rfl (yN [iX 0, iX 0, .bool false, .bool false, .bool false, .bool false, iX 0, iX 0] 46 fun bE q bF dU bG P => ?_); have bH : Ch (srB sr rv) w bE := zt aq P eZ; have G := zn bF aq; have bI := aK.ch P id; have bJ := a4.ch P id; have bK := aJ.ch P id id; refine qo P eZ <| yH 11 (yQ (qW (lim := H) bK v (by omega)) ?_); rintro bL ⟨bM, Q⟩; have bN : Ch (srB sr rv) w bL := zt bH Q (fun _ _ h => .inr h); have bO := bI.ch Q hS.ne; have bP := bJ.ch Q (fun (h : d = rv) => by have := f; have := hS.rd.lt; omega); have bQ := bG.ch Q (fun (h : q = rv) => by have := G; have := hS.rd.lt; omega); refine qo Q iZ <| yK 16 (yQ (qW (lim := 2) bM p (by omega)) ?_); rintro bR ⟨bS, aa⟩; have bT : Ch (srB sr rv) w bR := zt bN aa (fun _ _ h => .inr h); have bU := bO.ch aa hS.ne; have bV := bP.ch aa (fun (h : d = rv) => by have := f; have := hS.rd.lt; omega); have bW := bQ.ch aa (fun (h : q = rv) => by have := G; have := hS.rd.lt; omega); refine q9 <| yd [17, 18] [] .z <| yK 20 (yT [iX g, iX n, .bool ((k : Int) == 1), .bool false, .bool false, .bool false, iX 0, iX 0] bW fun bX bY ab => ?_); have bZ : Ch (srB sr rv) w bX := zt bT ab (fun i hi (h : i = q) => by have := G; omega); have c0 := bU.ch ab (fun (h : sr = q) => by have := G; have := hS.blk.lt; omega); have c1 := bV.ch ab (fun (h : d = q) => by have := a4.lt; omega); have c2 := bS.ch ab (fun (h : rv = q) => by have := G; have := hS.rd.lt; omega) (fun (h : D = q) => by have := G; have := hS.rd.dlt; omega)
   refine q9 <| yDe (fun a ha => a0 q _ ⟨c1, bY, c0, c2, bZ, G, (fun (h : q = d) => by have := a4.lt; omega)⟩ a (ha.kp [0, 1, 6, 7]))
  refine qav 19 _ (by kernel_rfl) rfl (yN [iX 0, iX 0, .bool false, .bool false, .bool false, .bool false, iX 0, iX 0] 46 fun c3 o c4 dV c5 R => ?_); have c6 : Ch (srB sr rv) w c3 := zt ap R eZ; have C := zn c4 ap; have c7 := L.ch R id; have c8 := aI.ch R id id; have c9 := a2.ch R id; refine qo R eZ <| yH 5 (yQ (qW (lim := W) c8 E (by omega)) ?_); rintro ca ⟨cb, S⟩; have cc : Ch (srB sr rv) w ca := zt c6 S (fun _ _ h => .inr h); have cd := c7.ch S hS.ne; have ce := c9.ch S (fun (h : d = rv) => by have := f; have := hS.rd.lt; omega); have cf := c5.ch S (fun (h : o = rv) => by have := C; have := hS.rd.lt; omega); refine qo S iZ <| yH 11 (yQ (qW (lim := H) cb v (by omega)) ?_); rintro cg ⟨ci, T⟩; have cj : Ch (srB sr rv) w cg := zt cc T (fun _ _ h => .inr h); have ck := cd.ch T hS.ne; have cl := ce.ch T (fun (h : d = rv) => by have := f; have := hS.rd.lt; omega); have cm := cf.ch T (fun (h : o = rv) => by have := C; have := hS.rd.lt; omega); refine qo T iZ <| yK 16 (yQ (qW (lim := 2) ci p (by omega)) ?_); rintro cn ⟨co, ac⟩; have cp : Ch (srB sr rv) w cn := zt cj ac (fun _ _ h => .inr h); have cq := ck.ch ac hS.ne; have cr := cl.ch ac (fun (h : d = rv) => by have := f; have := hS.rd.lt; omega); have ct := cm.ch ac (fun (h : o = rv) => by have := C; have := hS.rd.lt; omega); refine q9 <| yd [17, 18] [] .z <| yK 20 (yT [iX g, iX n, .bool ((k : Int) == 1), .bool false, .bool false, .bool false, iX 0, iX 0] ct fun cu cv ad => ?_); have cw : Ch (srB sr rv) w cu := zt cp ad (fun i hi (h : i = o) => by have := C; omega)
  have cx := cq.ch ad (fun (h : sr = o) => by have := C; have := hS.blk.lt; omega); have cy := cr.ch ad (fun (h : d = o) => by have := a2.lt; omega); have cz := co.ch ad (fun (h : rv = o) => by have := C; have := hS.rd.lt; omega) (fun (h : D = o) => by have := C; have := hS.rd.dlt; omega); refine q9 <| yDe (fun a ha => a0 o _ ⟨cy, cv, cx, cz, cw, C, (fun (h : o = d) => by have := a2.lt; omega)⟩ a (ha.kp [0, 1, 6, 7]))
 generalize gs = m at aH ⊢; obtain ⟨cA, cB, aO, cC, cD, r, cE⟩ := aH; refine ysr <| yp 4 [] (.l (aO.c 0) .z) ?_; obtain ⟨b, U, dW, V⟩ : ∃ t ok s', qfr u3 = (t, ok, s') := ⟨_, _, _, rfl⟩
 refine yo (yQ (qdK cC V) ?_); rintro cF ⟨cG, ae⟩; have aP : Ch (srB sr rv) w cF := zt cD ae (fun _ _ h => .inr h); have cH := aO.ch ae hS.ne; have aQ := cA.ch ae (fun (h : d = rv) => by have := f; have := hS.rd.lt; omega); have aR := cB.ch ae (fun (h : m = rv) => by have := r; have := hS.rd.lt; omega); refine yq 8 <| yo (yN [.bool false, .bool false, .bool false, iX 0, iX 0] 44 fun cI J cJ dX cK X => ?_); have cL : Ch (srB sr rv) w cI := zt aP X eZ; have af := zn cJ aP; have cM := cH.ch X id; have cN := aQ.ch X id; have cO := aR.ch X id; have cP := cG.ch X id id; refine yo (yT [.bool b.bold, .bool b.under, .bool b.turned, iX b.fore, iX b.back] cK fun cQ cR Y => ?_); have cS : Ch (srB sr rv) w cQ := zt cL Y (fun i hi (h : i = J) => by have := af; omega); have cT := cM.ch Y (fun (h : sr = J) => by have := af; have := hS.blk.lt; omega); have cU := cN.ch Y (fun (h : d = J) => by have := aQ.lt; omega); have cV := cO.ch Y (fun (h : m = J) => by have := aR.lt; omega); have cW := cP.ch Y (fun (h : rv = J) => by have := af; have := hS.rd.lt; omega) (fun (h : D = J) => by have := af; have := hS.rd.dlt; omega); refine yz 11 <| ysr <| yp 2 [] (.a (cR.cs 0 5) .z) <| yo (yT [iX g, iX n, .bool ((k : Int) == 1), .bool b.bold, .bool b.under, .bool b.turned, iX b.fore, iX b.back] cV fun cX K ag => ?_); have ah : Ch (srB sr rv) w cX := zt cS ag (fun i hi (h : i = m) => by have := r; omega); have Z := cT.ch ag (fun (h : sr = m) => by have := r; have := hS.blk.lt; omega); have ai := cU.ch ag (fun h => cE h.symm)
 have aj := cW.ch ag (fun (h : rv = m) => by have := r; have := hS.rd.lt; omega) (fun (h : D = m) => by have := r; have := hS.rd.dlt; omega); refine ye <| ysr <| yp 6 [] (.l (Z.c 1) .z) <| yw [44] (rY fine) (fun aw => ?_) fun aw => ?_
 ·have ax := aw; refine yq 9 <| yw [47] (rY U) (fun ay => ?_) fun ay => ?_
  ·have aS := ay; refine yp 13 [] (.l (K.c 2) .z) <| yw [51] (rN (rE k 1)) (fun az => ?_) fun az => ?_
   ·have cY := az; refine yq 22 <| yo (yT [pX rv, .bool true] Z fun cZ d0 ak => ?_); have d1 : Ch (srB sr rv) w cZ := zt ah ak (fun _ _ h => .inl h); have d2 := ai.ch ak (fun (h : d = sr) => by have := f; have := hS.blk.lt; omega); have d3 := aj.ch ak (fun h => hS.ne h.symm) (fun h => hS.nd h.symm); have d4 := K.ch ak (fun (h : m = sr) => by have := r; have := hS.blk.lt; omega); refine ye <| ysr <| yp 1 [] (.a (d4.cs 0 8) .z) <| yo (yT [iX g, iX n, .bool ((k : Int) == 1), .bool b.bold, .bool b.under, .bool b.turned, iX b.fore, iX b.back] d2 fun d5 d6 aA => ?_); have d7 : Ch (srB sr rv) w d5 := zt d1 aA (fun i hi (h : i = d) => by have := f; omega); have d8 := d3.ch aA (fun (h : rv = d) => by have := f; have := hS.rd.lt; omega) (fun (h : D = d) => by have := f; have := hS.rd.dlt; omega); have d9 := d0.ch aA (fun (h : sr = d) => by have := f; have := hS.blk.lt; omega); refine ye <| qd (qdg (.agg #[iX g, iX n, .bool ((k : Int) == 1), .bool b.bold, .bool b.under, .bool b.turned, iX b.fore, iX b.back]) (.a (d6.cs 0 8) .z) ?_); rw [qf4 E v p V] at hC; simp only [Prod.mk.injEq] at hC; obtain ⟨rfl, rfl, rfl⟩ := hC; have da : true = (fine && (U && (!(k == 1) || g == W - 1))) := by simp [ax, aS, cY]
    exact ⟨rfl, ⟨by rw [← da]; exact d9, d8, hS.ne, hS.nd⟩, d7⟩
   have db := az; refine yp 22 [] (.l (K.c 0) (.q6 (W - 1) .z)) <| yo (yT [pX rv, .bool ((g : Int) == (W - 1))] Z fun dc dd al => ?_); have de : Ch (srB sr rv) w dc := zt ah al (fun _ _ h => .inl h); have df := ai.ch al (fun (h : d = sr) => by have := f; have := hS.blk.lt; omega); have dg := aj.ch al (fun h => hS.ne h.symm) (fun h => hS.nd h.symm); have dh := K.ch al (fun (h : m = sr) => by have := r; have := hS.blk.lt; omega); refine ye <| ysr <| yp 1 [] (.a (dh.cs 0 8) .z) <| yo (yT [iX g, iX n, .bool ((k : Int) == 1), .bool b.bold, .bool b.under, .bool b.turned, iX b.fore, iX b.back] df fun di dj aB => ?_); have dk : Ch (srB sr rv) w di := zt de aB (fun i hi (h : i = d) => by have := f; omega); have dl := dg.ch aB (fun (h : rv = d) => by have := f; have := hS.rd.lt; omega) (fun (h : D = d) => by have := f; have := hS.rd.dlt; omega); have dm := dd.ch aB (fun (h : sr = d) => by have := f; have := hS.blk.lt; omega); refine ye <| qd (qdg (.agg #[iX g, iX n, .bool ((k : Int) == 1), .bool b.bold, .bool b.under, .bool b.turned, iX b.fore, iX b.back]) (.a (dj.cs 0 8) .z) ?_); rw [qf4 E v p V] at hC; simp only [Prod.mk.injEq] at hC; obtain ⟨rfl, rfl, rfl⟩ := hC; have dn : ((g : Int) == (W - 1)) = (fine && (U && (!(k == 1) || g == W - 1))) := by simp [ax, aS, db]
   exact ⟨rfl, ⟨by rw [← dn]; exact dm, dl, hS.ne, hS.nd⟩, dk⟩
  have dp := ay; refine yq 22 <| yo (yT [pX rv, .bool false] Z fun dq dr am => ?_); have ds : Ch (srB sr rv) w dq := zt ah am (fun _ _ h => .inl h); have dt := ai.ch am (fun (h : d = sr) => by have := f; have := hS.blk.lt; omega); have du := aj.ch am (fun h => hS.ne h.symm) (fun h => hS.nd h.symm); have dv := K.ch am (fun (h : m = sr) => by have := r; have := hS.blk.lt; omega); refine ye <| ysr <| yp 1 [] (.a (dv.cs 0 8) .z) <| yo (yT [iX g, iX n, .bool ((k : Int) == 1), .bool b.bold, .bool b.under, .bool b.turned, iX b.fore, iX b.back] dt fun dw dx aC => ?_); have dy : Ch (srB sr rv) w dw := zt ds aC (fun i hi (h : i = d) => by have := f; omega); have dz := du.ch aC (fun (h : rv = d) => by have := f; have := hS.rd.lt; omega) (fun (h : D = d) => by have := f; have := hS.rd.dlt; omega); have dA := dr.ch aC (fun (h : sr = d) => by have := f; have := hS.blk.lt; omega); refine ye <| qd (qdg (.agg #[iX g, iX n, .bool ((k : Int) == 1), .bool b.bold, .bool b.under, .bool b.turned, iX b.fore, iX b.back]) (.a (dx.cs 0 8) .z) ?_); rw [qf4 E v p V] at hC; simp only [Prod.mk.injEq] at hC; obtain ⟨rfl, rfl, rfl⟩ := hC; have dB : false = (fine && (U && (!(k == 1) || g == W - 1))) := by simp [ax, dp]
  exact ⟨rfl, ⟨by rw [← dB]; exact dA, dz, hS.ne, hS.nd⟩, dy⟩
 have dC := aw; refine yq 22 <| yo (yT [pX rv, .bool false] Z fun dD dE an => ?_); have dF : Ch (srB sr rv) w dD := zt ah an (fun _ _ h => .inl h); have dG := ai.ch an (fun (h : d = sr) => by have := f; have := hS.blk.lt; omega); have dH := aj.ch an (fun h => hS.ne h.symm) (fun h => hS.nd h.symm); have dI := K.ch an (fun (h : m = sr) => by have := r; have := hS.blk.lt; omega); refine ye <| ysr <| yp 1 [] (.a (dI.cs 0 8) .z) <| yo (yT [iX g, iX n, .bool ((k : Int) == 1), .bool b.bold, .bool b.under, .bool b.turned, iX b.fore, iX b.back] dG fun dJ dK aD => ?_); have dL : Ch (srB sr rv) w dJ := zt dF aD (fun i hi (h : i = d) => by have := f; omega); have dM := dH.ch aD (fun (h : rv = d) => by have := f; have := hS.rd.lt; omega) (fun (h : D = d) => by have := f; have := hS.rd.dlt; omega); have dN := dE.ch aD (fun (h : sr = d) => by have := f; have := hS.blk.lt; omega); refine ye <| qd (qdg (.agg #[iX g, iX n, .bool ((k : Int) == 1), .bool b.bold, .bool b.under, .bool b.turned, iX b.fore, iX b.back]) (.a (dK.cs 0 8) .z) ?_); rw [qf4 E v p V] at hC; simp only [Prod.mk.injEq] at hC; obtain ⟨rfl, rfl, rfl⟩ := hC; have dO : false = (fine && (U && (!(k == 1) || g == W - 1))) := by simp [dC]
 exact ⟨rfl, ⟨by rw [← dO]; exact dN, dM, hS.ne, hS.nd⟩, dL⟩
set_option maxHeartbeats 4000000 in
theorem qe7 {sr rv D : Nat} {s0 s1 : RS} {fine f1 : Bool} {w : World} (hS : SrIn w sr rv D fine s0) {W H : Int} {LL : List (List Cel)} (hT : qa4 w) (hr7 : gTop ≤ rv) (hs7 : gTop ≤ sr) (hW : 0 ≤ W ∧ W ≤ 60) (hH : 0 ≤ H ∧ H ≤ 1000) (hL : qaa W H.toNat [] s0 fine = (LL, s1, f1)) : Calls Tryz.prog 34 [pX sr, iX W, iX H].toArray w fun e w' =>
 ∃ o n cap rows, e = .returned (.slice (o.map at0) n cap) ∧ OutO w' w.heap.size o n cap rows ∧ rows.map RowO.l = LL ∧ SrIn w' sr rv D f1 s1 ∧ Ch (srB sr rv) w w' := by
 refine yA Tryz.func34 rfl <| yx 1 <| yx 1 <| ys <| yx 2 <| q8 <| qN [0, 1, 7, 10, 11] (f' := [(0, pX sr), (1, iX W), (7, nX), (10, iX H), (11, iX 0)]) <| qw (σ := Nat × List RowO × Option Nat × Nat × Nat × RS × Bool) (fun ⟨k, rows, o, n, cap, s, f⟩ => [(0, pX sr), (1, iX W), (7, .slice (o.map at0) n cap), (10, iX H), (11, iX ((k : Nat) : Int))]) (fun ⟨k, rows, o, n, cap, s, f⟩ u => k ≤ H.toNat ∧ qaa W (H.toNat - k) (rows.map RowO.l) s f = qaa W H.toNat [] s0 fine ∧ OutO u w.heap.size o n cap rows ∧ rows.length = k ∧ Blk u sr [pX rv, .bool f] tSr ∧ RdrAt u rv D s ∧ Ch (srB sr rv) w u) (fun ⟨k, rows, o, n, cap, s, f⟩ => H.toNat - k) (0, [], none, 0, 0, s0, fine) rfl ?_ ?_
 ·exact ⟨Nat.zero_le _, rfl, OutO.nil _ _, rfl, hS.blk, hS.rd, Ch.refl _ _⟩
 intro p av U aw V; obtain ⟨k, rows, o, n, cap, s, f⟩ := p; obtain ⟨hk, hG, hO, X, hB, hR, v⟩ := U; have ax := hO.len; have ay : n ≤ cap := hO.own.2.1; refine yx 1 <| ys <| yc (rL ((k : Nat) : Int) H) (fun Y => ?_) fun Y => ?_
 ·have E : H.toNat - k = (H.toNat - (k + 1)) + 1 := by omega
  rw [E, qaa] at hG; refine yk <| ys <| q8 <| ysr <| yp 5 [] (.l (hB.c 0) .z) ?_; obtain ⟨j, L, Z, A⟩ : ∃ l ok s', qdc W s = (l, ok, s') := ⟨_, _, _, rfl⟩
  refine yo (yC (qi8 hR (qh v hT (fun h => h.elim (fun (h : qcj = sr) => by have := g_lt; omega) (fun (h : qcj = rv) => by have := g_lt; omega)) (fun h => h.elim (fun (h : qaY = sr) => by have := g_lt; omega) (fun (h : qaY = rv) => by have := g_lt; omega))) hr7 ⟨by omega, by omega⟩ A) ?_); rintro _ a0 ⟨d, m, q, rfl, a1, a2, M, N, F⟩; refine ⟨_, rfl, ?_⟩; have O : ∀ b, d = some b → w.heap.size ≤ b := fun b e => Nat.le_trans (zs v) (M b e); have a3 : ∀ z ∈ rows, ∀ b, z.b = some b → d ≠ some b := fun z hz b hb e => by have := hO.rs.lt z hz b hb; have := M b e; omega
  have P : Ch (srB sr rv) w a0 := zt v F (fun _ _ h => .inr h); have G := hB.ch F hS.ne; have a4 := hO.ch F (fun b hb hl (h : b = rv) => by have := hS.rd.lt; omega); refine yz 11 <| ysr <| yp 6 [] (.l (G.c 1) .z) <| yw [27] (rY f) (fun I => ?_) fun I => ?_
  ·refine yq 10 <| yo (yT [pX rv, .bool L] G fun a5 J B => ?_); have K : Ch (srB sr rv) w a5 := zt P B (fun _ _ h => .inl h); have a6 := a4.ch B (fun b hb hl (h : b = sr) => by have := hS.blk.lt; omega); have Q := N.ch B (fun h => hS.ne h.symm) (fun h => hS.nd h.symm); have a7 := a2.ch B (fun b e (h : b = sr) => by have := O b e; have := hS.blk.lt; omega); refine ye <| ys <| ysr <| yp 5 [] (.l (J.c 1) .z) <| ye <| yc (rN (rY L)) (fun r => ?_) fun r => ?_
   ·refine yx 1 <| qd (rS (rB (rS (qy (rB (rS (yR1 (nX) ?_))))))); rw [A] at hG; rw [if_neg (by rw [r]; simp)] at hG; rw [hL] at hG; simp only [Prod.mk.injEq] at hG; obtain ⟨rfl, rfl, rfl⟩ := hG; exact ⟨none, 0, 0, [], rfl, OutO.nil _ _, rfl, ⟨(by rw [← r]; exact J), Q, hS.ne, hS.nd⟩, K⟩
   refine yk <| q7 <| yq 2 <| yo (yB [.slice (d.map at0) m q] 67 1 fun a8 a9 aa az ab t => ?_); have R : Ch (srB sr rv) w a8 := zt K t eZ; have aA := zn aa K; have g := a6.ch t (fun _ _ _ h => h); have ac := Q.ch t id id; have ad := a7.ch t iZ; have ae := J.ch t id; refine yo (qaf 67 1 24 o n cap (rows.map RowO.val) (some ⟨a9, 0, none⟩) 1 1 [RowO.val (RowO.mk d m q j)] (some 40) (n + 1) rfl ((rows ++ [(RowO.mk d m q j)]).map RowO.val) (by rw [List.map_append]; rfl) (by kernel_rfl) g.own (Rd.all ab) rfl rfl (fun h => by cases h) (by constructor <;> first | omega | (simp only [maxLen]; omega)) ?_); intro af ag ah ai aj aB C; have ak := App.of aj C; have al := g.app (RowsO.one ad a1 O) (zs R) (fun x hx y hy b e => by rw [List.mem_singleton.1 hy]; exact a3 x hx b e) ai ak; have am : Ch (srB sr rv) w af := zt R C (fun i hi h => by have := g.lo _ h; omega); have an := ac.ch C (fun h => by have := g.lo _ h; have := hS.rd.lt; omega) (fun h => by have := g.lo _ h; have := hS.rd.dlt; omega); have ao := ae.ch C (fun h => by have := g.lo _ h; have := hS.blk.lt; omega); refine yq 5 <| yE (nB (nS ?_)); refine q7 <| yp 2 [] (.q6 (((k : Nat) : Int) + 1) .z) ?_; rw [A] at hG; rw [if_pos (by rw [I, r]; rfl)] at hG; have ap : ((rows ++ [(RowO.mk d m q j)])).map RowO.l = rows.map RowO.l ++ [j] := by rw [List.map_append]; rfl
   refine yE (fun a ha => V (k + 1, (rows ++ [(RowO.mk d m q j)]), ag, (n + 1), ah, Z, true) _ ⟨by omega, by rw [ap]; exact hG, al, by rw [List.length_append, X]; rfl, by rw [← r]; exact ao, an, am⟩ (by show H.toNat - (k + 1) < H.toNat - k; omega) a (ha.kp [0, 1, 7, 10, 11]))
  refine yq 10 <| yo (yT [pX rv, .bool false] G fun aq S T => ?_); have ar : Ch (srB sr rv) w aq := zt P T (fun _ _ h => .inl h); have au := N.ch T (fun h => hS.ne h.symm) (fun h => hS.nd h.symm); refine ye <| ys <| ysr <| yp 5 [] (.l (S.c 1) .z) <| ye <| yct <| yx 1 <| qd (rS (rB (rS (qy (rB (rS (yR1 (nX) ?_))))))); rw [A] at hG; rw [if_neg (by rw [I]; simp)] at hG; rw [hL] at hG; simp only [Prod.mk.injEq] at hG; obtain ⟨rfl, rfl, rfl⟩ := hG; exact ⟨none, 0, 0, [], rfl, OutO.nil _ _, rfl, ⟨S, au, hS.ne, hS.nd⟩, ar⟩
 have E : H.toNat - k = 0 := by omega
 rw [E, qaa] at hG; refine qk (eS (qf (qe (nS ?_)))); refine yx 2 <| qd (yR1 (.slice (o.map at0) n cap) ?_); rw [hL] at hG; simp only [Prod.mk.injEq] at hG; obtain ⟨rfl, rfl, rfl⟩ := hG; exact ⟨o, n, cap, rows, rfl, hO, rfl, ⟨hB, hR, hS.ne, hS.nd⟩, v⟩
theorem qic {W : Int} : ∀ {k : Nat} {out L : List (List Cel)} {s s' : RS} {f f' : Bool}, qaa W k out s f = (L, s', f') → L.length ≤ out.length + k
  | 0, out, L, s, s', f, f', h => by simp only [qaa, Prod.mk.injEq] at h; rw [h.1]; exact Nat.le_refl _
  | k + 1, out, L, s, s', f, f', h => by
    rw [qaa] at h
    split at h
    · have := qic h
      rw [List.length_append] at this
      simp only [List.length_cons, List.length_nil] at this
      omega
    · simp only [Prod.mk.injEq] at h
      rw [← h.1]; simp
set_option maxHeartbeats 4000000 in
theorem qmU {sr rv D : Nat} {s0 s1 : RS} {fine f1 : Bool} {w : World} (hS : SrIn w sr rv D fine s0) {LL : List (List Cel)} (hT : qa4 w) (hr7 : gTop ≤ rv) (hs7 : gTop ≤ sr) (hBk : qft s0 fine = (LL, s1, f1)) : Calls Tryz.prog 35 [pX sr].toArray w fun e w' =>
 ∃ o n cap rows, e = .returned (.slice (o.map at0) n cap) ∧ OutO w' w.heap.size o n cap rows ∧ rows.map RowO.l = LL ∧ SrIn w' sr rv D f1 s1 ∧ Ch (srB sr rv) w w' := by
 refine yA Tryz.func35 rfl <| yx 1 <| yx 1 <| ys <| ysr <| yp 4 [] (.l (hS.blk.c 0) .z) ?_; obtain ⟨g, N, q⟩ : ∃ x s', qO (21) s0 = (x, s') := ⟨_, _, rfl⟩
 have O := qa3 (lim := 21) (s := s0); rw [q] at O; dsimp only at O; refine yo (yQ (qW (lim := 21) hS.rd q (by omega)) ?_); rintro a8 ⟨a9, P⟩; have aa : Ch (srB sr rv) w a8 := zt (Ch.refl (srB sr rv) w) P (fun _ _ h => .inr h); have ab := hS.blk.ch P hS.ne; refine yz 6 <| q8 <| qN [0, 3, 9, 10] (f' := [(0, pX sr), (3, nX), (9, iX g), (10, iX 0)]) <| qw (σ := Nat × List RowO × Option Nat × Nat × Nat × RS × Bool) (fun ⟨k, rows, o, n, cap, s, f⟩ => [(0, pX sr), (3, .slice (o.map at0) n cap), (9, iX g), (10, iX ((k : Nat) : Int))]) (fun ⟨k, rows, o, n, cap, s, f⟩ u => k ≤ (g : Int).toNat ∧ qe5 ((g : Int).toNat - k) (rows.map RowO.l) s f = qe5 (g : Int).toNat [] N fine ∧ OutO u w.heap.size o n cap rows ∧ n ≤ k ∧ Blk u sr [pX rv, .bool f] tSr ∧ RdrAt u rv D s ∧ Ch (srB sr rv) w u) (fun ⟨k, rows, o, n, cap, s, f⟩ => (g : Int).toNat - k) (0, [], none, 0, 0, N, fine) rfl ?_ ?_
 ·exact ⟨Nat.zero_le _, rfl, OutO.nil _ _, Nat.le_refl _, ab, a9, aa⟩
 intro p aB ac aC ad; obtain ⟨k, rows, o, n, cap, s, f⟩ := p; obtain ⟨hk, hG, hO, aD, hB, hR, Q⟩ := ac; have aE : n ≤ cap := hO.own.2.1; refine yx 1 <| ys <| yc (rL ((k : Nat) : Int) g) (fun ae => ?_) fun ae => ?_
 ·have E : (g : Int).toNat - k = ((g : Int).toNat - (k + 1)) + 1 := by omega
  rw [E, qe5] at hG; refine yk <| ys <| q8 <| ysr <| yp 4 [] (.l (hB.c 0) .z) ?_; obtain ⟨j, af, r⟩ : ∃ x s', qO (61) s = (x, s') := ⟨_, _, rfl⟩
  have R := qa3 (lim := 61) (s := s); rw [r] at R; dsimp only at R; refine yo (yQ (qW (lim := 61) hR r (by omega)) ?_); rintro S ⟨ag, F⟩; have G : Ch (srB sr rv) w S := zt Q F (fun _ _ h => .inr h); have ah := hB.ch F hS.ne; have T := hO.ch F (fun b hb hl (h : b = rv) => by have := hS.rd.lt; omega); refine yz 6 <| ysr <| yq 3 ?_; obtain ⟨U, ai, f36, t⟩ : ∃ l s' f', qaa j (1 : Int).toNat [] af f = (l, s', f') := ⟨_, _, _, rfl⟩
  refine yo (yC (qe7 ⟨ah, ag, hS.ne, hS.nd⟩ (qh G hT (fun h => h.elim (fun (h : qcj = sr) => by have := g_lt; omega) (fun (h : qcj = rv) => by have := g_lt; omega)) (fun h => h.elim (fun (h : qaY = sr) => by have := g_lt; omega) (fun (h : qaY = rv) => by have := g_lt; omega))) hr7 hs7 (by omega) (by omega) t) ?_); rintro _ V ⟨W, H, aj, v, rfl, X, Y, Z, I⟩; refine ⟨_, rfl, ?_⟩; have aF : S.heap.size ≤ V.heap.size := zs I; have ak : ∀ x ∈ rows, ∀ y ∈ v, ∀ b, x.b = some b → y.b ≠ some b := fun x hx y hy b e e' => by have := T.rs.lt x hx b e; have := X.rs.lo y hy b e'; omega
  have B := X.low (zs G); have a0 : Ch (srB sr rv) w V := zt G I iZ; have m := T.ch I (fun b hb hl h => h.elim (fun (h : b = sr) => by have := hS.blk.lt; omega) (fun (h : b = rv) => by have := hS.rd.lt; omega)); have a1 := B.len; have al := congrArg List.length Y; rw [List.length_map, a1] at al; have aG : U.length ≤ 1 := by have h := qic t; simpa using h
  refine yo (qaf 67 1 24 o n cap (rows.map RowO.val) (W.map at0) H aj (v.map RowO.val) (some 21) (n + H) rfl ((rows ++ v).map RowO.val) (by rw [List.map_append]) (by kernel_rfl) m.own B.own.rd (by rw [List.length_map, a1, Nat.mul_one]) (rowO_one _) (fun h => by cases W with | none => exact (B.own.2.2.2.1 rfl).2 | some b => cases h) (by constructor <;> first | omega | (simp only [maxLen]; omega)) ?_); intro am an ao ap aq aH C; have ar := App.of aq C; have au := m.app B.rs (zs a0) ak ap ar; have a2 : Ch (srB sr rv) w am := zt a0 C (fun i hi h => by have := m.lo _ h; omega); have a3 := Z.rd.ch C (fun h => by have := m.lo _ h; have := hS.rd.lt; omega) (fun h => by have := m.lo _ h; have := hS.rd.dlt; omega); have J := Z.blk.ch C (fun h => by have := m.lo _ h; have := hS.blk.lt; omega); refine yz 6 <| ysr <| yp 6 [] (.l (J.c 1) .z) <| yw [27] (rY f36) (fun K => ?_) fun K => ?_
  ·refine yq 11 <| yo (yT [pX rv, .bool (decide (0 < j))] J fun av L M => ?_); have a4 : Ch (srB sr rv) w av := zt a2 M (fun _ _ h => .inl h); have a5 := a3.ch M (fun h => hS.ne h.symm) (fun h => hS.nd h.symm); have aw := au.ch M (fun b hb hl (h : b = sr) => by have := hS.blk.lt; omega); refine ye <| ysr <| yp 5 [] (.l (L.c 1) .z) <| ye <| yc (rN (rL 0 j)) (fun A => ?_) fun A => ?_
   ·refine yx 1 <| qd (rB (rS (qy (rB (rS (yR1 (nX) ?_)))))); have d := hBk; unfold qft at d; rw [q] at d; dsimp only at d; rw [r] at hG; dsimp only at hG; rw [show qaa j 1 [] _ _ = _ from t] at hG; dsimp only at hG; rw [if_neg (by rw [decide_eq_false A]; simp)] at hG; rw [d] at hG; simp only [Prod.mk.injEq] at hG; obtain ⟨rfl, rfl, rfl⟩ := hG; exact ⟨none, 0, 0, [], rfl, OutO.nil _ _, rfl, ⟨(by rw [← decide_eq_false A]; exact L), a5, hS.ne, hS.nd⟩, a4⟩
   refine qp (nB (nS ?_)); refine q7 <| yp 2 [] (.q6 (((k : Nat) : Int) + 1) .z) ?_; rw [r] at hG; dsimp only at hG; rw [show qaa j 1 [] _ _ = _ from t] at hG; dsimp only at hG; rw [if_pos (by rw [K, decide_eq_true A]; rfl)] at hG; have ax : ((rows ++ v)).map RowO.l = rows.map RowO.l ++ U := by rw [List.map_append, Y]
   refine yE (fun a ha => ad (k + 1, (rows ++ v), an, (n + H), ao, ai, true) _ ⟨by omega, by rw [ax]; exact hG, aw, by omega, by rw [← decide_eq_true A]; exact L, a5, a4⟩ (by show (g : Int).toNat - (k + 1) < (g : Int).toNat - k; omega) a (ha.kp [0, 3, 9, 10]))
  refine yq 11 <| yo (yT [pX rv, .bool false] J fun ay a6 a7 => ?_); have az : Ch (srB sr rv) w ay := zt a2 a7 (fun _ _ h => .inl h); have aA := a3.ch a7 (fun h => hS.ne h.symm) (fun h => hS.nd h.symm); refine ye <| ysr <| yp 5 [] (.l (a6.c 1) .z) <| ye <| yct <| yx 1 <| qd (rB (rS (qy (rB (rS (yR1 (nX) ?_)))))); have d := hBk; unfold qft at d; rw [q] at d; dsimp only at d; rw [r] at hG; dsimp only at hG; rw [show qaa j 1 [] _ _ = _ from t] at hG; dsimp only at hG; rw [if_neg (by rw [K]; simp)] at hG; rw [d] at hG; simp only [Prod.mk.injEq] at hG; obtain ⟨rfl, rfl, rfl⟩ := hG; exact ⟨none, 0, 0, [], rfl, OutO.nil _ _, rfl, ⟨a6, aA, hS.ne, hS.nd⟩, az⟩
 have E : (g : Int).toNat - k = 0 := by omega
 rw [E, qe5] at hG; refine qk (eS (qf (qe (nS ?_)))); refine yx 2 <| qd (yR1 (.slice (o.map at0) n cap) ?_); have d := hBk; unfold qft at d; rw [q] at d; dsimp only at d; rw [d] at hG; simp only [Prod.mk.injEq] at hG; obtain ⟨rfl, rfl, rfl⟩ := hG; exact ⟨o, n, cap, rows, rfl, hO, rfl, ⟨hB, hR, hS.ne, hS.nd⟩, Q⟩
abbrev tI : TypeId := 3
theorem put_mkU {l : List Int} (h : l.length ≤ 3) (c : Value) (r : List Value) : put (c :: uX 0 :: uX 0 :: uX 0 :: r) 1 (l.map (Value.int .u8)) = c :: uX (mkU l).b0 :: uX (mkU l).b1 :: uX (mkU l).b2 :: r := by
 match l, h with
 | [], _ => rfl
 | [a], _ => rfl
 | [a, b], _ => rfl
 | [a, b, c], _ => rfl
theorem qmV (x : ByteArray) : qeg x = (qaM x).map (Value.int .u8) := by
 unfold qeg qaM; rw [List.map_map]; rfl
theorem mkU_n (x : ByteArray) : ((x.size : Nat) : Int) = (mkU (qaM x)).n := by
 show _ = (((qaM x).length : Nat) : Int)
 rw [qgT]
theorem qh2 {most : Int} {s s' : RS} {x : ByteArray} (h : qaW most s = (x, s')) (h0 : 0 < most) : (x.size : Int) ≤ most := by
 have hb := qa3 (lim := most + 1) (s := s); unfold qaW at h; rw [if_pos h0] at h; split at h
 ·simp only [Prod.mk.injEq] at h; rw [← h.1]; show (0 : Int) ≤ most; omega
 rename_i n ys e; rw [e] at hb; have a : n < most + 1 := hb.2.2 (by omega); have b : 0 ≤ n := hb.1; split at h
 ·simp only [Prod.mk.injEq] at h; rw [← h.1]; show (0 : Int) ≤ most; omega
 simp only [Prod.mk.injEq] at h; rw [← h.1, qcN, List.length_take]; omega
set_option maxHeartbeats 4000000 in
theorem qiR {sr rv D : Nat} {s0 s1 : RS} {fine f1 : Bool} {w : World} (hS : SrIn w sr rv D fine s0) {p : PS} (hU : qbS w) (hr7 : gTop ≤ rv) (hs7 : gTop ≤ sr) (hP : qi3 s0 fine = (p, s1, f1)) : Calls Tryz.prog 37 [pX sr].toArray w fun e w' =>
 ∃ o n cap, e = .returned (.agg (p.vals (.slice (o.map at0) n cap)).toArray) ∧ Own w' tI 1 o n cap (p.params.map (Value.int .i64)) ∧ (∀ b, o = some b → w.heap.size ≤ b) ∧ SrIn w' sr rv D f1 s1 ∧ Ch (srB sr rv) w w' := by
 obtain ⟨r, u1, P⟩ : ∃ x s', qO 8 s0 = (x, s') := ⟨_, _, rfl⟩
 obtain ⟨t, u2, J⟩ : ∃ x s', qO 8 u1 = (x, s') := ⟨_, _, rfl⟩
 have aH := qa3 (lim := 8) (s := s0); have aI := qa3 (lim := 8) (s := u1); rw [P] at aH; rw [J] at aI; dsimp only at aH aI; refine yA Tryz.func37 rfl <| ysr <| yo (yN [iX 0, uX 0, uX 0, uX 0, iX 0, oX, nX, oX, iX 0] 55 fun bj g bk eu bl aq => ?_); have bm : Ch (srB sr rv) w bj := zt (Ch.refl (srB sr rv) w) aq eZ; have q : w.heap.size ≤ g := by rw [bk]; exact zs (Ch.refl (srB sr rv) w)
 have bn := hS.blk.ch aq id; have bo := hS.rd.ch aq id id; refine ye <| qd4 (σ := Nat) (fun f => [(0, pX sr), (2, pX g), (3, pX f)]) (fun f u => Blk u g [iX 0, uX 0, uX 0, uX 0, iX 0, oX, nX, oX, iX 0] 55 ∧ Blk u f [iX r, uX 0, uX 0, uX 0, iX 0, oX, nX, oX, iX t] 55 ∧ Blk u sr [pX rv, .bool fine] tSr ∧ RdrAt u rv D u2 ∧ Ch (srB sr rv) w u ∧ w.heap.size ≤ f ∧ ¬ f = g) (fun ev ar => ?_) (fun gs u22 aJ => ?_)
 ·refine qY (· = rv) [9, 12] (by kernel_rfl) (fun bp ew a2 => ?_); have au : Ch (srB sr rv) w bp := zt bm a2 eZ; have a3 := bn.ch a2 id; have aK := bo.ch a2 id id; have a4 := bl.ch a2 id; refine ydC [0, 1, 2, 3, 5, 6, 7, 8] [] (fun u hu => (.l (qg hu (a3.c 0) hS.ne) (.l (qg hu (a3.c 0) hS.ne) .z))) <| qbl 4 11 (by kernel_rfl) (by decide) ?_ ?_
  ·refine qav 4 _ (by kernel_rfl) rfl (yQ (qW (lim := 8) aK P (by omega)) ?_); rintro bq ⟨aL, a5⟩; have av : Ch (srB sr rv) w bq := zt au a5 (fun _ _ h => .inr h); have aM := a3.ch a5 hS.ne; have a6 := a4.ch a5 (fun (h : g = rv) => by have := q; have := hS.rd.lt; omega); refine qo a5 iZ <| qbl 9 11 (by kernel_rfl) (by decide) ?_ ?_
   ·refine qbD 9 _ (by kernel_rfl) rfl (yQ (qW (lim := 8) aL J (by omega)) ?_); rintro br ⟨bs, aw⟩; have aN : Ch (srB sr rv) w br := zt av aw (fun _ _ h => .inr h); have bt := aM.ch aw hS.ne; have ax := a6.ch aw (fun (h : g = rv) => by have := q; have := hS.rd.lt; omega); refine qaw (B := fun j => j = rv) <| ydC [10] [] (fun u hu => .z) <| yH 11 (yN [iX 0, uX 0, uX 0, uX 0, iX 0, oX, nX, oX, iX 0] 55 fun bu G bv ex bw Q => ?_); have bx : Ch (srB sr rv) w bu := zt aN Q eZ; have R := zn bv aN; have bz := bt.ch Q id; have bA := ax.ch Q id; have bB := bs.ch Q id id; refine qo Q eZ <| yK 12 (yT [iX r, uX 0, uX 0, uX 0, iX 0, oX, nX, oX, iX t] bw fun bC bD a7 => ?_); have bE : Ch (srB sr rv) w bC := zt bx a7 (fun i hi (h : i = G) => by have := R; omega); have bF := bz.ch a7 (fun (h : sr = G) => by have := R; have := hS.blk.lt; omega); have bG := bA.ch a7 (fun (h : g = G) => by have := ax.lt; omega); have bH := bB.ch a7 (fun (h : rv = G) => by have := R; have := hS.rd.lt; omega) (fun (h : D = G) => by have := R; have := hS.rd.dlt; omega); refine q9 <| yDe (fun a ha => ar G _ ⟨bG, bD, bF, bH, bE, R, (fun (h : G = g) => by have := ax.lt; omega)⟩ a (ha.kp [0, 2, 3]))
   refine qav 11 _ (by kernel_rfl) rfl (yN [iX 0, uX 0, uX 0, uX 0, iX 0, oX, nX, oX, iX 0] 55 fun bI F bJ ey bK S => ?_); have bL : Ch (srB sr rv) w bI := zt av S eZ; have K := zn bJ av; have bM := aM.ch S id; have bN := a6.ch S id; have bO := aL.ch S id id; refine qo S eZ <| yK 9 (yQ (qW (lim := 8) bO J (by omega)) ?_); rintro bP ⟨bQ, a8⟩; have bR : Ch (srB sr rv) w bP := zt bL a8 (fun _ _ h => .inr h); have bS := bM.ch a8 hS.ne; have bT := bN.ch a8 (fun (h : g = rv) => by have := q; have := hS.rd.lt; omega); have bU := bK.ch a8 (fun (h : F = rv) => by have := K; have := hS.rd.lt; omega); refine q9 <| yd [10] [] .z <| yK 12 (yT [iX r, uX 0, uX 0, uX 0, iX 0, oX, nX, oX, iX t] bU fun bV bW a9 => ?_); have bX : Ch (srB sr rv) w bV := zt bR a9 (fun i hi (h : i = F) => by have := K; omega); have bY := bS.ch a9 (fun (h : sr = F) => by have := K; have := hS.blk.lt; omega); have bZ := bT.ch a9 (fun (h : g = F) => by have := a6.lt; omega); have c0 := bQ.ch a9 (fun (h : rv = F) => by have := K; have := hS.rd.lt; omega) (fun (h : D = F) => by have := K; have := hS.rd.dlt; omega); refine q9 <| yDe (fun a ha => ar F _ ⟨bZ, bW, bY, c0, bX, K, (fun (h : F = g) => by have := a6.lt; omega)⟩ a (ha.kp [0, 2, 3]))
  refine qav 11 _ (by kernel_rfl) rfl (yN [iX 0, uX 0, uX 0, uX 0, iX 0, oX, nX, oX, iX 0] 55 fun c1 E c2 ez c3 T => ?_); have c4 : Ch (srB sr rv) w c1 := zt au T eZ; have H := zn c2 au; have c5 := a3.ch T id; have c6 := aK.ch T id id; have c7 := a4.ch T id; refine qo T eZ <| yH 4 (yQ (qW (lim := 8) c6 P (by omega)) ?_); rintro c8 ⟨c9, U⟩; have ca : Ch (srB sr rv) w c8 := zt c4 U (fun _ _ h => .inr h); have cb := c5.ch U hS.ne; have cc := c7.ch U (fun (h : g = rv) => by have := q; have := hS.rd.lt; omega); have cd := c3.ch U (fun (h : E = rv) => by have := H; have := hS.rd.lt; omega); refine qo U iZ <| yK 9 (yQ (qW (lim := 8) c9 J (by omega)) ?_); rintro ce ⟨cf, aa⟩; have cg : Ch (srB sr rv) w ce := zt ca aa (fun _ _ h => .inr h); have ci := cb.ch aa hS.ne; have cj := cc.ch aa (fun (h : g = rv) => by have := q; have := hS.rd.lt; omega); have ck := cd.ch aa (fun (h : E = rv) => by have := H; have := hS.rd.lt; omega); refine q9 <| yd [10] [] .z <| yK 12 (yT [iX r, uX 0, uX 0, uX 0, iX 0, oX, nX, oX, iX t] ck fun cl cm ab => ?_); have cn : Ch (srB sr rv) w cl := zt cg ab (fun i hi (h : i = E) => by have := H; omega); have co := ci.ch ab (fun (h : sr = E) => by have := H; have := hS.blk.lt; omega); have cp := cj.ch ab (fun (h : g = E) => by have := a4.lt; omega); have cq := cf.ch ab (fun (h : rv = E) => by have := H; have := hS.rd.lt; omega) (fun (h : D = E) => by have := H; have := hS.rd.dlt; omega); refine q9 <| yDe (fun a ha => ar E _ ⟨cp, cm, co, cq, cn, H, (fun (h : E = g) => by have := a4.lt; omega)⟩ a (ha.kp [0, 2, 3]))
 generalize gs = f at aJ ⊢; obtain ⟨cr, ct, cu, cv, cw, m, V⟩ := aJ; refine ys <| yD [7, 8, 11] fun cx eA W => ?_; have cy : Ch (srB sr rv) w cx := zt cw W eZ; have aO := cu.ch W id; have cz := cv.ch W id id; have cA := cr.ch W id; have cB := ct.ch W id; refine yd (uL 0 7) [] (.l (aO.c 0) .z) ?_; obtain ⟨d, cC, ac⟩ : ∃ x s', qaW 3 u2 = (x, s') := ⟨_, _, rfl⟩
 refine yK 7 (yQ (qcO (most := 3) cz ac (by decide)) ?_); rintro cD ⟨cE, ad⟩; have cF : Ch (srB sr rv) w cD := zt cy ad (fun _ _ h => .inr h); have cG := aO.ch ad hS.ne; have cH := cA.ch ad (fun (h : g = rv) => by have := q; have := hS.rd.lt; omega); have cI := cB.ch ad (fun (h : f = rv) => by have := m; have := hS.rd.lt; omega); have eB := qh2 ac (by decide); refine q9 ?_; have aP : (qaM d).length ≤ 3 := by rw [qgT]; omega
 refine yK 8 (e_copyS' f 1 3 3 d (some 23) (mkU (qaM d)).n (mkU_n d) (by kernel_rfl) cI (by omega) (by simp only [List.length_cons, List.length_nil]; omega) ?_); intro cJ aQ ae; rw [qmV, put_mkU aP] at aQ; have cK : Ch (srB sr rv) w cJ := zt cF ae (fun i hi (h : i = f) => by have := m; omega); have cL := cG.ch ae (fun (h : sr = f) => by have := m; have := hS.blk.lt; omega); have cM := cH.ch ae (fun h => V h.symm); have cN := cE.ch ae (fun (h : rv = f) => by have := m; have := hS.rd.lt; omega) (fun (h : D = f) => by have := m; have := hS.rd.dlt; omega); refine q9 <| yd [9, 10] [] .z <| yK 11 (yT [iX r, uX (mkU (qaM d)).b0, uX (mkU (qaM d)).b1, uX (mkU (qaM d)).b2, iX (mkU (qaM d)).n, oX, nX, oX, iX t] aQ fun cO cP af => ?_); have cQ : Ch (srB sr rv) w cO := zt cK af (fun i hi (h : i = f) => by have := m; omega); have aR := cL.ch af (fun (h : sr = f) => by have := m; have := hS.blk.lt; omega); have cR := cM.ch af (fun h => V h.symm); have cS := cN.ch af (fun (h : rv = f) => by have := m; have := hS.rd.lt; omega) (fun (h : D = f) => by have := m; have := hS.rd.dlt; omega); refine q9 <| yDe (nS ?_); refine ysr <| yp 4 [] (.l (aR.c 0) .z) ?_; obtain ⟨v, aS, ag⟩ : ∃ x s', qaW 2 cC = (x, s') := ⟨_, _, rfl⟩
 refine yo (yQ (qcO (most := 2) cS ag (by decide)) ?_); rintro cT ⟨cU, ah⟩; have cV : Ch (srB sr rv) w cT := zt cQ ah (fun _ _ h => .inr h); have cW := aR.ch ah hS.ne; have cX := cR.ch ah (fun (h : g = rv) => by have := q; have := hS.rd.lt; omega); have cY := cP.ch ah (fun (h : f = rv) => by have := m; have := hS.rd.lt; omega); have eC := qh2 ag (by decide); refine yq 6 <| yo (yT [iX r, uX (mkU (qaM d)).b0, uX (mkU (qaM d)).b1, uX (mkU (qaM d)).b2, iX (mkU (qaM d)).n, .string v, nX, oX, iX t] cY fun cZ d0 ai => ?_); have d1 : Ch (srB sr rv) w cZ := zt cV ai (fun i hi (h : i = f) => by have := m; omega); have aT := cW.ch ai (fun (h : sr = f) => by have := m; have := hS.blk.lt; omega); have d2 := cX.ch ai (fun h => V h.symm); have d3 := cU.ch ai (fun (h : rv = f) => by have := m; have := hS.rd.lt; omega) (fun (h : D = f) => by have := m; have := hS.rd.dlt; omega); refine ye <| ys <| ysr <| yp 4 [] (.l (aT.c 0) .z) ?_; obtain ⟨y, aU, aj⟩ : ∃ x s', qO (9) aS = (x, s') := ⟨_, _, rfl⟩
 have aV := qa3 (lim := 9) (s := aS); rw [aj] at aV; dsimp only at aV; refine yo (yQ (qW (lim := 9) d3 aj (by omega)) ?_); rintro d4 ⟨d5, ak⟩; have d6 : Ch (srB sr rv) w d4 := zt d1 ak (fun _ _ h => .inr h); have d7 := aT.ch ak hS.ne; have d8 := d2.ch ak (fun (h : g = rv) => by have := q; have := hS.rd.lt; omega); have d9 := d0.ch ak (fun (h : f = rv) => by have := m; have := hS.rd.lt; omega); refine yz 6 <| q8 <| qN [0, 2, 3, 36, 37] (f' := [(0, pX sr), (2, pX g), (3, pX f), (36, iX y), (37, iX 0)]) <| qw (σ := Nat × List Int × Option Nat × Nat × Nat × RS) (fun ⟨k, l, o, n, cap, s⟩ => [(0, pX sr), (2, pX g), (3, pX f), (36, iX y), (37, iX ((k : Nat) : Int))]) (fun ⟨k, l, o, n, cap, s⟩ u => k ≤ (y : Int).toNat ∧ qen ((y : Int).toNat - k) l s = qen (y : Int).toNat [] aU ∧ Own u tI 1 o n cap (l.map (Value.int .i64)) ∧ (∀ b, o = some b → w.heap.size ≤ b) ∧ (∀ b, o = some b → ¬ b = f) ∧ (∀ b, o = some b → ¬ b = g) ∧ n ≤ k ∧ Blk u sr [pX rv, .bool fine] tSr ∧ Blk u f [iX r, uX (mkU (qaM d)).b0, uX (mkU (qaM d)).b1, uX (mkU (qaM d)).b2, iX (mkU (qaM d)).n, .string v, .slice (o.map at0) n cap, oX, iX t] 55 ∧ Blk u g [iX 0, uX 0, uX 0, uX 0, iX 0, oX, nX, oX, iX 0] 55 ∧ RdrAt u rv D s ∧ Ch (srB sr rv) w u) (fun ⟨k, l, o, n, cap, s⟩ => (y : Int).toNat - k) (0, [], none, 0, 0, aU) rfl ?_ ?_
 ·exact ⟨Nat.zero_le _, rfl, Own.nil _ _ _, (fun b e => by cases e), (fun b e => by cases e), (fun b e => by cases e), Nat.le_refl _, d7, d9, d8, d5, d6⟩
 intro p eD da eE db; obtain ⟨k, l, o, n, cap, s⟩ := p; obtain ⟨hk, hG, hO, A, ay, al, eF, hB, aW, aX, hR, aY⟩ := da; have eG : n ≤ cap := hO.2.1; have dc : l.length = n := by have h := hO.1; simpa using h
 refine yx 1 <| ys <| yc (rL ((k : Nat) : Int) y) (fun dd => ?_) fun dd => ?_
 ·have az : (y : Int).toNat - k = ((y : Int).toNat - (k + 1)) + 1 := by omega
  rw [az, qen] at hG; refine yk <| ys <| q8 <| qY (· = rv) [8, 10] (by kernel_rfl) (fun de eH L => ?_); have df : Ch (srB sr rv) w de := zt aY L eZ; have aZ := hB.ch L id; have dg := aX.ch L id; have b3 := aW.ch L id; have dh := hR.ch L id id; have di := hO.ch L iZ; refine ydC (uL 0 6) [] (fun u hu => (.l (qg hu (b3.c 6) (fun (h : f = rv) => by have := m; have := hS.rd.lt; omega)) (.l (qg hu (aZ.c 0) hS.ne) .z))) ?_; obtain ⟨am, dj, aA⟩ : ∃ x s', qO (10000) s = (x, s') := ⟨_, _, rfl⟩
  have b4 := qa3 (lim := 10000) (s := s); rw [aA] at b4; dsimp only at b4; refine yH 6 (yQ (qW (lim := 10000) dh aA (by omega)) ?_); rintro dk ⟨dl, M⟩; have b5 : Ch (srB sr rv) w dk := zt df M (fun _ _ h => .inr h); have dm := aZ.ch M hS.ne; have dn := dg.ch M (fun (h : g = rv) => by have := q; have := hS.rd.lt; omega); have dp := b3.ch M (fun (h : f = rv) => by have := m; have := hS.rd.lt; omega); have b6 := di.ch M (fun b e (h : b = rv) => by have := A b e; have := hS.rd.lt; omega); refine qo M iZ <| yH 7 (yB [iX am] 3 1 fun dq b8 dr eI ds I => ?_); have eJ := zv (b := b8) b6; have b9 : Ch (srB sr rv) w dq := zt b5 I eZ; have eK := zn dr b5; have dt := dm.ch I id; have ba := dn.ch I id; have bb := dp.ch I id; have du := b6.ch I iZ; have dv := dl.ch I id id; refine qo I eZ ?_; refine yK 8 (qaf 3 1 8 o n cap (l.map (Value.int .i64)) (some ⟨b8, 0, none⟩) 1 1 [iX am] (some 47) (n + 1) rfl ((l ++ [am]).map (Value.int .i64)) (by rw [List.map_append]; rfl) (by kernel_rfl) du (Rd.all ds) rfl rfl (fun h => by cases h) (by constructor <;> first | omega | (simp only [maxLen]; omega)) ?_); intro dw aB bc dx bd eL N; have bf := App.of bd N; have dy : ∀ b, aB = some b → w.heap.size ≤ b := fun b e => by
   rcases bd with h | ⟨g', h, h'⟩
   ·exact A b (h ▸ e)
   rw [h] at e; have := zi e; have := zs b9; omega
  have bg := bf.apart bb.lt ay; have dz := bf.apart ba.lt al; have dA : Ch (srB sr rv) w dw := zt b9 N (fun i hi h => by have := A _ h; omega); have dB := dt.ch N (fun h => by have := A _ h; have := hS.blk.lt; omega); have dC := ba.ch N (fun h => al _ h rfl); have dD := bb.ch N (fun h => ay _ h rfl); have dE := dv.ch N (fun h => by have := A _ h; have := hS.rd.lt; omega) (fun h => by have := A _ h; have := hS.rd.dlt; omega); refine q9 <| yd [9] [] .z <| yK 10 (yT [iX r, uX (mkU (qaM d)).b0, uX (mkU (qaM d)).b1, uX (mkU (qaM d)).b2, iX (mkU (qaM d)).n, .string v, .slice (aB.map at0) (n + 1) bc, oX, iX t] dD fun dF dG X => ?_); have dH : Ch (srB sr rv) w dF := zt dA X (fun i hi (h : i = f) => by have := m; omega); have dI := dB.ch X (fun (h : sr = f) => by have := m; have := hS.blk.lt; omega); have dJ := dC.ch X (fun h => V h.symm); have dK := dE.ch X (fun (h : rv = f) => by have := m; have := hS.rd.lt; omega) (fun (h : D = f) => by have := m; have := hS.rd.dlt; omega); have dL := dx.ch X (fun b e (h : b = f) => bg b e h); refine q9 <| yDe (nB (nS ?_)); refine q7 <| yp 2 [] (.q6 (((k : Nat) : Int) + 1) .z) ?_; rw [aA] at hG; refine yE (fun a ha => db (k + 1, (l ++ [am]), aB, (n + 1), bc, dj) _ ⟨by omega, hG, dL, dy, bg, dz, by omega, dI, dG, dJ, dK, dH⟩ (by show (y : Int).toNat - (k + 1) < (y : Int).toNat - k; omega) a (ha.kp [0, 2, 3, 36, 37]))
 have az : (y : Int).toNat - k = 0 := by omega
 rw [az, qen] at hG; refine qk (eS (qf (qe (nS ?_)))); refine ysr <| yp 4 [] (.l (hB.c 0) .z) ?_; obtain ⟨C, eM, an⟩ : ∃ x s', qaW 40 s = (x, s') := ⟨_, _, rfl⟩
 refine yo (yQ (qcO (most := 40) hR an (by decide)) ?_); rintro dM ⟨dN, Y⟩; have dO : Ch (srB sr rv) w dM := zt aY Y (fun _ _ h => .inr h); have dP := hB.ch Y hS.ne; have dQ := aX.ch Y (fun (h : g = rv) => by have := q; have := hS.rd.lt; omega); have dR := aW.ch Y (fun (h : f = rv) => by have := m; have := hS.rd.lt; omega); have dS := hO.ch Y (fun b e (h : b = rv) => by have := A b e; have := hS.rd.lt; omega); have eN := qh2 an (by decide); refine yq 6 <| yo (yT [iX r, uX (mkU (qaM d)).b0, uX (mkU (qaM d)).b1, uX (mkU (qaM d)).b2, iX (mkU (qaM d)).n, .string v, .slice (o.map at0) n cap, .string C, iX t] dR fun dT aC Z => ?_); have aD : Ch (srB sr rv) w dT := zt dO Z (fun i hi (h : i = f) => by have := m; omega); have aE := dP.ch Z (fun (h : sr = f) => by have := m; have := hS.blk.lt; omega); have bh := dQ.ch Z (fun h => V h.symm); have aF := dS.ch Z (fun b e (h : b = f) => ay b e h); have bi := dN.ch Z (fun (h : rv = f) => by have := m; have := hS.rd.lt; omega) (fun (h : D = f) => by have := m; have := hS.rd.dlt; omega); refine ye <| ysr <| yp 6 [] (.l (aE.c 1) .z) <| yw [61] (rY fine) (fun aG => ?_) fun aG => ?_
 ·refine yp 7 [] (.a (aC.cs 0 9) .z) <| yo (yQ (rightE (PS.mk r (mkU (qaM d)) v l C t) (o.map at0) n cap _ (qZ aD hU (fun h => h.elim (fun (h : qec = sr) => by have := u_lt; omega) (fun (h : qec = rv) => by have := u_lt; omega)) (fun h => h.elim (fun (h : gAcc = sr) => by have := u_lt; omega) (fun (h : gAcc = rv) => by have := u_lt; omega))) (qlU (qhW _) aP) aF.rd dc (by cases ho : o with | none => rw [ho] at hO; exact .inl (hO.2.2.2.1 rfl).1 | some b => exact .inr ⟨b, 0, rfl⟩) (by omega) (by dsimp only; omega)) fun dU O => ?_); have dV : Ch (srB sr rv) w dU := zt aD O eZ; have dW := aE.ch O id; have dX := bh.ch O id; have dY := aF.ch O iZ; have dZ := bi.ch O id id; have e0 := aC.ch O id; refine yq 11 <| yo (yT [pX rv, .bool (qs (PS.mk r (mkU (qaM d)) v l C t))] dW fun e1 e2 a0 => ?_); have e3 : Ch (srB sr rv) w e1 := zt dV a0 (fun _ _ h => .inl h); have e4 := dX.ch a0 (fun (h : g = sr) => by have := q; have := hS.blk.lt; omega); have e5 := dY.ch a0 (fun b e (h : b = sr) => by have := A b e; have := hS.blk.lt; omega); have e6 := dZ.ch a0 (fun h => hS.ne h.symm) (fun h => hS.nd h.symm); have e7 := e0.ch a0 (fun (h : f = sr) => by have := m; have := hS.blk.lt; omega); refine ye <| ysr <| yp 1 [] (.a (e7.cs 0 9) .z) <| yo (yT [iX r, uX (mkU (qaM d)).b0, uX (mkU (qaM d)).b1, uX (mkU (qaM d)).b2, iX (mkU (qaM d)).n, .string v, .slice (o.map at0) n cap, .string C, iX t] e4 fun e8 e9 ao => ?_); have ea : Ch (srB sr rv) w e8 := zt e3 ao (fun i hi (h : i = g) => by have := q; omega)
  have eb := e5.ch ao (fun b e (h : b = g) => al b e h); have ec := e6.ch ao (fun (h : rv = g) => by have := q; have := hS.rd.lt; omega) (fun (h : D = g) => by have := q; have := hS.rd.dlt; omega); have ed := e2.ch ao (fun (h : sr = g) => by have := q; have := hS.blk.lt; omega); refine ye <| qd (qdg (.agg #[iX r, uX (mkU (qaM d)).b0, uX (mkU (qaM d)).b1, uX (mkU (qaM d)).b2, iX (mkU (qaM d)).n, .string v, .slice (o.map at0) n cap, .string C, iX t]) (.a (e9.cs 0 9) .z) ?_); rw [qgV P J ac ag aj hG.symm an] at hP; simp only [Prod.mk.injEq] at hP; obtain ⟨rfl, rfl, rfl⟩ := hP; have ee : (qs (PS.mk r (mkU (qaM d)) v l C t)) = (fine && qs (PS.mk r (mkU (qaM d)) v l C t)) := by rw [aG]; rfl
  exact ⟨o, n, cap, rfl, eb, A, ⟨by rw [← ee]; exact ed, ec, hS.ne, hS.nd⟩, ea⟩
 refine yq 11 <| yo (yT [pX rv, .bool false] aE fun ef eg a1 => ?_); have eh : Ch (srB sr rv) w ef := zt aD a1 (fun _ _ h => .inl h); have ei := bh.ch a1 (fun (h : g = sr) => by have := q; have := hS.blk.lt; omega); have ej := aF.ch a1 (fun b e (h : b = sr) => by have := A b e; have := hS.blk.lt; omega); have ek := bi.ch a1 (fun h => hS.ne h.symm) (fun h => hS.nd h.symm); have el := aC.ch a1 (fun (h : f = sr) => by have := m; have := hS.blk.lt; omega); refine ye <| ysr <| yp 1 [] (.a (el.cs 0 9) .z) <| yo (yT [iX r, uX (mkU (qaM d)).b0, uX (mkU (qaM d)).b1, uX (mkU (qaM d)).b2, iX (mkU (qaM d)).n, .string v, .slice (o.map at0) n cap, .string C, iX t] ei fun em en ap => ?_); have eo : Ch (srB sr rv) w em := zt eh ap (fun i hi (h : i = g) => by have := q; omega); have ep := ej.ch ap (fun b e (h : b = g) => al b e h); have er := ek.ch ap (fun (h : rv = g) => by have := q; have := hS.rd.lt; omega) (fun (h : D = g) => by have := q; have := hS.rd.dlt; omega); have es := eg.ch ap (fun (h : sr = g) => by have := q; have := hS.blk.lt; omega); refine ye <| qd (qdg (.agg #[iX r, uX (mkU (qaM d)).b0, uX (mkU (qaM d)).b1, uX (mkU (qaM d)).b2, iX (mkU (qaM d)).n, .string v, .slice (o.map at0) n cap, .string C, iX t]) (.a (en.cs 0 9) .z) ?_); rw [qgV P J ac ag aj hG.symm an] at hP; simp only [Prod.mk.injEq] at hP; obtain ⟨rfl, rfl, rfl⟩ := hP; have et : false = (fine && qs (PS.mk r (mkU (qaM d)) v l C t)) := by rw [aG]; rfl
 exact ⟨o, n, cap, rfl, ep, A, ⟨by rw [← et]; exact es, er, hS.ne, hS.nd⟩, eo⟩
end Go.Proofs.YtclnfbmmaofpjaaGreatDoor.X
