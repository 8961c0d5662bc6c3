/- What the proof of StateBytes needs, part 5: the walks of the program's functions and the plain laws about them. -/
import Derived.Test.YtclnfbmmaofpjaaGreatDoorQM4
import Derived.Laws.IdiomStrings
import Derived.Lib.AppendStr
set_option linter.unusedSimpArgs false
set_option linter.unusedVariables false
namespace Go.Proofs.YtclnfbmmaofpjaaGreatDoor.X
open Go Go.RowKit Go.Proofs.YtclnfbmmaofpjaaGreatDoor
theorem or64 {a b k : Nat} (ha : a < 2 ^ k) (hb : ∃ c, b = c * 2 ^ k) (hs : a + b < 2 ^ 64) : ql .or .u64 (a : Int) (b : Int) = ((a + b : Nat) : Int) := by
 obtain ⟨c, rfl⟩ := hb
 have e : (BitVec.ofInt 64 (a : Int) ||| BitVec.ofInt 64 ((c * 2 ^ k : Nat) : Int)).toNat = a + c * 2 ^ k := by
  rw [BitVec.ofInt_natCast, BitVec.ofInt_natCast, BitVec.toNat_or, BitVec.toNat_ofNat, BitVec.toNat_ofNat, Nat.mod_eq_of_lt (by omega), Nat.mod_eq_of_lt (by omega), Nat.or_comm, ← Nat.shiftLeft_eq, ← Nat.shiftLeft_add_eq_or_of_lt ha, Nat.shiftLeft_eq]
  omega
 show IntKind.wrap .u64 ((BitVec.ofInt 64 (a : Int) ||| BitVec.ofInt 64 ((c * 2 ^ k : Nat) : Int)).toNat : Int) = _
 rw [e]
 exact qc0 ⟨by omega, by omega⟩
theorem qlW {n : Nat} (h : n < 2 ^ 64) : IntKind.wrap .u64 (n : Int) = (n : Int) := qc0 ⟨by omega, by omega⟩
theorem qlX (i : Nat) : 2 ^ (7 * i) = 128 ^ i := by rw [Nat.pow_mul]
theorem qlY {i : Nat} (h : i ≤ 9) : 128 ^ i ≤ 128 ^ 9 := Nat.pow_le_pow_right (by decide) h
abbrev orT (n c : Int) (i : Nat) : Int := ql .or .u64 n (IntKind.wrap .u64 (IntKind.wrap .u64 (ql .and .u8 c 127) * 2 ^ min (7 * ((i : Nat) : Int) : Int).toNat (IntKind.bits .u64)))
theorem and127 : ∀ c, c < 256 → ql .and .u8 (c : Nat) 127 = ((c % 128 : Nat) : Int) := by decide +kernel
theorem orT_eq {n i : Nat} {c : Int} (hc : 0 ≤ c ∧ c ≤ 255) (hi : i ≤ 9) (h9 : i = 9 → c ≤ 1) (hn : n < 128 ^ i) : orT (n : Int) c i = ((n + c.toNat % 128 * 128 ^ i : Nat) : Int) := by
 have e1 : ql .and .u8 c 127 = ((c.toNat % 128 : Nat) : Int) := by
  have := and127 c.toNat (by omega)
  rwa [Int.toNat_of_nonneg hc.1] at this
 have hp := qlY hi
 have hb : c.toNat % 128 * 128 ^ i ≤ 128 ^ 9 := by
  rcases Nat.lt_or_ge i 9 with h | h
  ·have h8 : 128 ^ i ≤ 128 ^ 8 := Nat.pow_le_pow_right (by decide) (by omega)
   calc c.toNat % 128 * 128 ^ i ≤ 128 * 128 ^ 8 := Nat.mul_le_mul (by omega) h8
    _ = 128 ^ 9 := by decide
  ·have := h9 (by omega)
   calc c.toNat % 128 * 128 ^ i ≤ 1 * 128 ^ 9 := Nat.mul_le_mul (by omega) hp
    _ = 128 ^ 9 := by decide
 have e2 : (2 : Int) ^ min (7 * ((i : Nat) : Int) : Int).toNat (IntKind.bits .u64) = ((128 ^ i : Nat) : Int) := by
  rw [show min (7 * ((i : Nat) : Int) : Int).toNat (IntKind.bits .u64) = 7 * i by show min _ 64 = _; omega, ← qlX]
  norm_cast
 have h64 : (2 : Nat) ^ 64 = 2 * 128 ^ 9 := by decide
 unfold orT
 rw [e1, qlW (by omega), e2, ← Int.natCast_mul, qlW (by omega)]
 refine or64 (k := 7 * i) (by rw [qlX]; exact hn) ⟨c.toNat % 128, by rw [qlX]⟩ (by omega)
def qcD : Nat → Int → List Int → Int × Int
 | _, _, [] => (0, 0)
 | i, n, c :: r =>
  if (i = 9 ∧ 1 < c) ∨ 9 < i then (0, 0)
  else if c < 128 then (if c = 0 ∧ 0 < i then (0, 0) else (orT n c i, ((i : Nat) : Int) + 1))
  else qcD (i + 1) (orT n c i) r
theorem takeG_eq : ∀ (ys : List Int) (i n : Nat), qd7 ys → n < 128 ^ i → qcD i (n : Int) ys = (((qf7 i n ys).1 : Int), ((qf7 i n ys).2 : Int)) := by
 intro ys
 induction ys with
 | nil => intro i n _ _; rfl
 | cons c r ih =>
  intro i n hb hn
  have hc := hb c (List.mem_cons_self ..)
  rw [qcD, qf7]
  by_cases h1 : (i = 9 ∧ 1 < c) ∨ 9 < i
  ·rw [if_pos h1, if_pos h1]; rfl
  ·rw [if_neg h1, if_neg h1, orT_eq hc (by omega) (by omega) hn]
   by_cases h2 : c < 128
   ·rw [if_pos h2, if_pos h2]
    by_cases h3 : c = 0 ∧ 0 < i
    ·rw [if_pos h3, if_pos h3]; rfl
    ·rw [if_neg h3, if_neg h3]; simp
   ·rw [if_neg h2, if_neg h2]
    refine ih (i + 1) _ (fun x hx => hb x (List.mem_cons_of_mem _ hx)) ?_
    have : c.toNat % 128 * 128 ^ i ≤ 127 * 128 ^ i := Nat.mul_le_mul_right _ (by omega)
    rw [Nat.pow_succ]; omega
theorem qc3 {ys : List Int} (h : qd7 ys) : qcD 0 0 ys = (((qam ys).1 : Int), ((qam ys).2 : Int)) := takeG_eq ys 0 0 h (by decide)
abbrev shr7 (n : Int) : Int := Int.fdiv n (2 ^ min (7 : Int).toNat (IntKind.bits .u64))
abbrev low7 (n : Int) : Int := ql .or .u8 (IntKind.wrap .u8 n) 128
theorem shr7_eq (n : Nat) : shr7 (n : Int) = ((n / 128 : Nat) : Int) := by
 show Int.fdiv (n : Int) 128 = _
 rw [Int.fdiv_eq_ediv_of_nonneg _ (by decide)]; omega
theorem or128 : ∀ c, c < 256 → ql .or .u8 (c : Nat) 128 = ((c % 128 + 128 : Nat) : Int) := by decide +kernel
theorem wrap8 (n : Nat) : IntKind.wrap .u8 (n : Int) = ((n % 256 : Nat) : Int) := by
 simp [IntKind.wrap, IntKind.bits, IntKind.signed]
theorem low7_eq (n : Nat) : low7 (n : Int) = ((n % 128 + 128 : Nat) : Int) := by
 unfold low7
 rw [wrap8, or128 _ (Nat.mod_lt _ (by decide)), Nat.mod_mod_of_dvd _ (by decide)]
def qaB (f : Nat → Bool) : Nat → Nat
 | 0 => 0
 | k + 1 => qaB f k + if f k = true then 2 ^ k else 0
def lb (l : List Bool) (i : Nat) : Bool := l.getD i false
def qY (l : List Bool) : Nat := qaB (lb l) l.length
theorem qbN (f : Nat → Bool) : ∀ k, qaB f k < 2 ^ k
 | 0 => Nat.one_pos
 | k + 1 => by
  have := qbN f k
  rw [qaB, Nat.pow_succ]
  split <;> omega
theorem qbY {f g : Nat → Bool} : ∀ {k : Nat}, (∀ i, i < k → f i = g i) → qaB f k = qaB g k
 | 0, _ => rfl
 | k + 1, h => by rw [qaB, qaB, h k (Nat.lt_succ_self k), qbY fun i hi => h i (Nat.lt_succ_of_lt hi)]
abbrev orF (n : Int) (i : Nat) : Int := ql .or .u64 n (IntKind.wrap .u64 (1 * 2 ^ min ((i : Nat) : Int).toNat (IntKind.bits .u64)))
theorem orF_eq {n i : Nat} (hi : i < 64) (hn : n < 2 ^ i) : orF (n : Int) i = ((n + 2 ^ i : Nat) : Int) := by
 have hp : 2 ^ i ≤ 2 ^ 63 := Nat.pow_le_pow_right (by decide) (by omega)
 have e2 : (2 : Int) ^ min ((i : Nat) : Int).toNat (IntKind.bits .u64) = ((2 ^ i : Nat) : Int) := by
  rw [show min ((i : Nat) : Int).toNat (IntKind.bits .u64) = i by show min _ 64 = _; omega]
  norm_cast
 unfold orF
 rw [e2, Int.one_mul, qlW (by omega)]
 exact or64 (k := i) hn ⟨1, by rw [Nat.one_mul]⟩ (by omega)
def qes (n i : Nat) : Bool := n / 2 ^ i % 2 == 1
theorem qec (n : Nat) : ∀ k, qaB (qes n) k = n % 2 ^ k
 | 0 => by rw [qaB]; omega
 | k + 1 => by
  rw [qaB, qec n k, Nat.pow_succ, Nat.mod_mul]
  unfold qes
  have := Nat.mod_two_eq_zero_or_one (n / 2 ^ k)
  rcases this with h | h <;> rw [h] <;> simp
theorem and1_eq (k : IntKind) (hk : k = .i64 ∨ k = .u64) (n : Nat) (h : n < 2 ^ 63) : ql .and k (n : Int) 1 = ((n % 2 : Nat) : Int) := by
 have e : (BitVec.ofInt 64 (n : Int) &&& BitVec.ofInt 64 1).toNat = n % 2 := by
  rw [BitVec.ofInt_natCast, BitVec.toNat_and, BitVec.toNat_ofNat, Nat.mod_eq_of_lt (by omega)]
  exact Nat.and_one_is_mod n
 rcases hk with rfl | rfl
 ·show IntKind.wrap .i64 ((BitVec.ofInt 64 (n : Int) &&& BitVec.ofInt 64 1).toNat : Int) = _
  rw [e]
  exact qc0 ⟨by omega, by omega⟩
 ·show IntKind.wrap .u64 ((BitVec.ofInt 64 (n : Int) &&& BitVec.ofInt 64 1).toNat : Int) = _
  rw [e]
  exact qc0 ⟨by omega, by omega⟩
theorem bit_eq (k : IntKind) (hk : k = .i64 ∨ k = .u64) {n i : Nat} (h : n < 2 ^ 63) (hi : i < 64) : ((ql .and k (Int.fdiv (n : Int) (2 ^ min ((i : Nat) : Int).toNat (IntKind.bits k))) 1 : Int) == 1) = qes n i := by
 have e : Int.fdiv (n : Int) (2 ^ min ((i : Nat) : Int).toNat (IntKind.bits k)) = ((n / 2 ^ i : Nat) : Int) := by
  have e2 : (2 : Int) ^ min ((i : Nat) : Int).toNat (IntKind.bits k) = ((2 ^ i : Nat) : Int) := by
   rw [show min ((i : Nat) : Int).toNat (IntKind.bits k) = i by rcases hk with rfl | rfl <;> (show min _ 64 = _; omega)]
   norm_cast
  rw [e2, Int.fdiv_eq_ediv_of_nonneg _ (Int.natCast_nonneg _)]
  norm_cast
 rw [e, and1_eq k hk _ (Nat.lt_of_le_of_lt (Nat.div_le_self _ _) h)]
 unfold qes
 have := Nat.mod_two_eq_zero_or_one (n / 2 ^ i)
 rcases this with h | h <;> rw [h] <;> rfl
def qc4 (s : Sty) : Nat := s.fore.toNat + 16 * s.back.toNat + (if s.bold = true then 256 else 0) + (if s.under = true then 512 else 0) + if s.turned = true then 1024 else 0
def qlZ (n : Nat) : Sty := ⟨n / 256 % 2 == 1, n / 512 % 2 == 1, n / 1024 % 2 == 1, ((n % 16 : Nat) : Int), ((n / 16 % 16 : Nat) : Int)⟩
theorem qiF : ∀ n, n < 2048 → qc4 (qlZ n) = n := by decide +kernel
theorem qd9 {s : Sty} (h : qA s = true) : qc4 s < 2048 := by
 simp only [qA, Bool.and_eq_true, decide_eq_true_eq] at h
 unfold qc4
 split <;> split <;> split <;> omega
def qft (s : RS) : Sty × Bool × RS := if ((qP 2048 s).2.isSome && qA (qlZ (qP 2048 s).1.toNat)) = true then (qlZ (qP 2048 s).1.toNat, true, (qP 2048 s).2) else (qca, false, (qP 2048 s).2)
theorem qhZ {s : RS} {x : Sty} {s' : RS} (hs : rsB s) (h : qft s = (x, true, s')) : ∃ ys zs, s = some ys ∧ s' = some zs ∧ ys = qaA (qc4 x) ++ zs ∧ qA x = true := by
 unfold qft at h
 split at h
 ·rename_i h1
  simp only [Prod.mk.injEq, true_and] at h
  obtain ⟨rfl, rfl⟩ := h
  rw [Bool.and_eq_true] at h1
  obtain ⟨h1, h2⟩ := h1
  obtain ⟨zs, hz⟩ := Option.isSome_iff_exists.1 h1
  obtain ⟨ys, e1, e2, e3, e4, e5⟩ := qV hs (Prod.ext rfl hz)
  have h7 : (qP 2048 s).1.toNat < 2048 := by have h8 : (qP 2048 s).1 < 2048 := e5 (by decide); omega
  exact ⟨ys, zs, e1, hz, by rw [qiF _ h7]; exact e2, h2⟩
 ·simp at h
theorem qi0 {s : RS} (hs : rsB s) : rsB (qft s).2.2 := by
 unfold qft
 split <;> exact qD hs
def qbO (n : Nat) (c : Cel) : List Int := qaA n ++ (qaA c.rune.toNat ++ qaA (qc4 c.sty))
def qfu (c : Cel) : List (Nat × Cel) → List (Nat × Cel)
 | [] => [(1, c)]
 | (n, d) :: t => if d = c then (n + 1, d) :: t else (1, c) :: (n, d) :: t
def qdl : List Cel → List (Nat × Cel)
 | [] => []
 | c :: r => qfu c (qdl r)
def qU (l : List Cel) : List Int := (qdl l).flatMap fun p => qbO p.1 p.2
theorem consR_ne (c : Cel) (t : List (Nat × Cel)) : qfu c t ≠ [] := by
 unfold qfu
 split
 ·exact List.cons_ne_nil _ _
 ·split <;> exact List.cons_ne_nil _ _
theorem runsL_ne {l : List Cel} (h : l ≠ []) : qdl l ≠ [] := by
 cases l with
 | nil => exact absurd rfl h
 | cons c r => exact consR_ne _ _
theorem qki : ∀ {l : List Cel} {n : Nat} {d : Cel} {t : List (Nat × Cel)}, qdl l = (n, d) :: t → l.head? = some d
 | [], _, _, _, h => by cases h
 | c :: r, n, d, t, h => by
  unfold qdl qfu at h
  split at h
  ·simp only [List.cons.injEq, Prod.mk.injEq] at h
   rw [← h.1.2]; rfl
  ·split at h
   ·rename_i e
    simp only [List.cons.injEq, Prod.mk.injEq] at h
    rw [← h.1.2, e]; rfl
   ·simp only [List.cons.injEq, Prod.mk.injEq] at h
    rw [← h.1.2]; rfl
theorem qdO (c : Cel) (r : List Cel) (h : r.head? ≠ some c) : ∀ n, qdl (List.replicate (n + 1) c ++ r) = (n + 1, c) :: qdl r
 | 0 => by
  show qfu c (qdl r) = _
  unfold qfu
  split
  ·rename_i e; rw [e]
  ·rename_i n d t e
   rw [if_neg (fun hd => h (by rw [qki e, hd])), e]
 | n + 1 => by
  rw [List.replicate_succ]
  show qfu c (qdl (List.replicate (n + 1) c ++ r)) = _
  rw [qdO c r h n, qfu, if_pos rfl]
theorem qcq {c : Cel} {r : List Cel} (h : r.head? ≠ some c) (n : Nat) : qU (List.replicate (n + 1) c ++ r) = qbO (n + 1) c ++ qU r := by
 unfold qU
 rw [qdO c r h n]; rfl
theorem qg3 {c : Cel} {n : Nat} : ∀ {l : List Cel}, l.getLast? ≠ some c → qdl (l ++ List.replicate (n + 1) c) = qdl l ++ [(n + 1, c)]
 | [], _ => by
  have := qdO c [] (by simp) n
  rw [List.append_nil] at this
  exact this
 | d :: r, h => by
  show qfu d (qdl (r ++ List.replicate (n + 1) c)) = qfu d (qdl r) ++ _
  cases r with
  | nil =>
   have hd : ¬ c = d := fun e => h (by rw [e]; rfl)
   have := qdO c [] (by simp) n
   rw [List.append_nil] at this
   rw [List.nil_append, this]
   show (if c = d then _ else _) = _
   rw [if_neg hd]; rfl
  | cons e r =>
   have h2 : (e :: r).getLast? ≠ some c := by rw [List.getLast?_cons_cons] at h; exact h
   rw [qg3 h2]
   have h3 := runsL_ne (List.cons_ne_nil e r)
   match hq : qdl (e :: r), h3 with
   | (k, q) :: t, _ =>
    show (if q = d then (k + 1, q) :: (t ++ _) else (1, d) :: (k, q) :: (t ++ _)) = (if q = d then (k + 1, q) :: t else (1, d) :: (k, q) :: t) ++ _
    split <;> rfl
theorem qkj {c : Cel} {n : Nat} {l : List Cel} (h : l.getLast? ≠ some c) (hn : 0 < n) : qU (l ++ List.replicate n c) = qU l ++ qbO n c := by
 obtain ⟨n, rfl⟩ : ∃ m, n = m + 1 := ⟨n - 1, by omega⟩
 unfold qU
 rw [qg3 h, List.flatMap_append]; simp
def cOk (c : Cel) : Prop := qA c.sty = true ∧ 0 ≤ c.rune ∧ c.rune < 1114112
def qi1 (W : Int) (out : List Cel) (s : RS) : Option (List Cel) × RS :=
 if (qft (qP 1114112 (qP (W - (out.length : Int) + 1) s).2).2).2.1 = false ∨ (qP (W - (out.length : Int) + 1) s).1 = 0 ∨ out.getLast? = some ⟨(qP 1114112 (qP (W - (out.length : Int) + 1) s).2).1, (qft (qP 1114112 (qP (W - (out.length : Int) + 1) s).2).2).1⟩ then (none, (qft (qP 1114112 (qP (W - (out.length : Int) + 1) s).2).2).2.2)
 else (some (out ++ List.replicate (qP (W - (out.length : Int) + 1) s).1.toNat ⟨(qP 1114112 (qP (W - (out.length : Int) + 1) s).2).1, (qft (qP 1114112 (qP (W - (out.length : Int) + 1) s).2).2).1⟩), (qft (qP 1114112 (qP (W - (out.length : Int) + 1) s).2).2).2.2)
theorem qcv {W : Int} {out : List Cel} {s s1 s2 s3 : RS} {n r : Int} {t : Sty} {ok : Bool} (h1 : qP (W - (out.length : Int) + 1) s = (n, s1)) (h2 : qP 1114112 s1 = (r, s2)) (h3 : qft s2 = (t, ok, s3)) :
  qi1 W out s = if ok = false ∨ n = 0 ∨ out.getLast? = some ⟨r, t⟩ then (none, s3) else (some (out ++ List.replicate n.toNat ⟨r, t⟩), s3) := by
 unfold qi1
 rw [h1]
 dsimp only
 rw [h2]
 dsimp only
 rw [h3]
def qbP : Nat → Int → List Cel → RS → Option (List Cel) × RS
 | 0, _, out, s => (some out, s)
 | f + 1, W, out, s => if W ≤ (out.length : Int) then (some out, s) else match qi1 W out s with
  | (none, s') => (none, s')
  | (some o, s') => qbP f W o s'
def qdm (W : Int) (s : RS) : List Cel × Bool × RS := match qbP W.toNat W [] s with
 | (none, s') => ([], false, s')
 | (some o, s') => if qbj o = true then (o, true, s') else ([], false, s')
theorem qda {f : Nat} {W : Int} {out : List Cel} {s : RS} (h : W ≤ (out.length : Int)) : qbP f W out s = (some out, s) := by
 cases f with
 | zero => rfl
 | succ f => rw [qbP, if_pos h]
theorem qfa {f : Nat} {W : Int} {out : List Cel} {s s' : RS} (h : ¬ W ≤ (out.length : Int)) (hf : W.toNat - out.length ≤ f) (hs : qi1 W out s = (none, s')) : qbP f W out s = (none, s') := by
 cases f with
 | zero => omega
 | succ f => rw [qbP, if_neg h, hs]
theorem qjn {f : Nat} {W : Int} {out o : List Cel} {s s' : RS} (h : ¬ W ≤ (out.length : Int)) (hf : W.toNat - out.length ≤ f) (hs : qi1 W out s = (some o, s')) : ∃ f', f = f' + 1 ∧ qbP f W out s = qbP f' W o s' := by
 cases f with
 | zero => omega
 | succ f => exact ⟨f, rfl, by rw [qbP, if_neg h, hs]⟩
theorem qkk {W : Int} {out : List Cel} {s : RS} (hs : rsB s) : rsB (qi1 W out s).2 := by
 unfold qi1
 split <;> exact qi0 (qD (qD hs))
theorem qg4 : ∀ (f : Nat) {W : Int} {out : List Cel} {s : RS}, rsB s → rsB (qbP f W out s).2
 | 0, _, _, _, h => h
 | f + 1, W, out, s, h => by
  rw [qbP]
  split
  ·exact h
  ·have := qkk (W := W) (out := out) h
   split
   ·rename_i e; rw [e] at this; exact this
   ·rename_i e; rw [e] at this; exact qg4 f this
theorem qed {W : Int} {s : RS} (hs : rsB s) : rsB (qdm W s).2.2 := by
 have := qg4 W.toNat (W := W) (out := []) hs
 unfold qdm
 split
 ·rename_i e; rw [e] at this; exact this
 ·rename_i e
  rw [e] at this
  split <;> exact this
theorem qkl : ∀ (f : Nat) (W : Int) (out o : List Cel) (ys : List Int) (s' : RS), qd7 ys → (out.length : Int) ≤ W → (∀ c ∈ out, cOk c) → W.toNat - out.length ≤ f → qbP f W out (some ys) = (some o, s') →
  ∃ zs, s' = some zs ∧ qU out ++ ys = qU o ++ zs ∧ (o.length : Int) = W ∧ ∀ c ∈ o, cOk c := by
 intro f
 induction f with
 | zero =>
  intro W out o ys s' hb hl hc hf h
  simp only [qbP, Prod.mk.injEq, Option.some.injEq] at h
  obtain ⟨rfl, rfl⟩ := h
  exact ⟨ys, rfl, rfl, by omega, hc⟩
 | succ f ih =>
  intro W out o ys s' hb hl hc hf h
  rw [qbP] at h
  split at h
  ·simp only [Prod.mk.injEq, Option.some.injEq] at h
   obtain ⟨rfl, rfl⟩ := h
   exact ⟨ys, rfl, rfl, by omega, hc⟩
  ·rename_i hW
   obtain ⟨n, s1, h1⟩ : ∃ n s1, qP (W - (out.length : Int) + 1) (some ys) = (n, s1) := ⟨_, _, rfl⟩
   obtain ⟨r, s2, h2⟩ : ∃ n s2, qP 1114112 s1 = (n, s2) := ⟨_, _, rfl⟩
   obtain ⟨t, ok, s3, h3⟩ : ∃ t ok s3, qft s2 = (t, ok, s3) := ⟨_, _, _, rfl⟩
   rw [qcv h1 h2 h3] at h
   split at h
   ·rename_i e
    split at e
    ·cases h
    ·cases e
   ·rename_i o2 s3' e
    split at e
    ·cases e
    ·rename_i hn
     simp only [Prod.mk.injEq, Option.some.injEq] at e
     obtain ⟨rfl, rfl⟩ := e
     simp only [not_or] at hn
     obtain ⟨n1, n2, n3⟩ := hn
     have hok : ok = true := by cases ok <;> simp_all
     subst hok
     have hs0 : rsB (some ys) := fun x hx => by cases hx; exact hb
     have b1 := qD (lim := W - (out.length : Int) + 1) hs0
     rw [h1] at b1
     have b2 := qD (lim := 1114112) b1
     rw [h2] at b2
     obtain ⟨y3, z3, e3, e3', e3'', hst⟩ := qhZ b2 h3
     subst e3 e3'
     obtain ⟨y2, e2, e2', p2, p2', p2''⟩ := qV b1 h2
     subst e2
     obtain ⟨y1, e1, e1', p1, p1', p1''⟩ := qV hs0 h1
     obtain rfl := Option.some.inj e1
     have hn0 : 0 < n.toNat := by omega
     have hlim := p1'' (by omega)
     have hb3 : qd7 z3 := by
      have := b2 y3 rfl
      rw [e3''] at this
      exact fun x hx => this x (List.mem_append_right _ hx)
     obtain ⟨zs, q1, q2, q3, q4⟩ := ih W _ o z3 s' hb3 (by rw [List.length_append, List.length_replicate]; omega) (fun c hc' => by
      rcases List.mem_append.1 hc' with h | h
      ·exact hc c h
      ·rw [(List.mem_replicate.1 h).2]; exact ⟨hst, p2, by have := p2'' (by decide); exact this⟩) (by rw [List.length_append, List.length_replicate]; omega) h
     refine ⟨zs, q1, ?_, q3, q4⟩
     rw [← q2, qkj n3 hn0, e1', e2', e3'']
     unfold qbO
     simp only [List.append_assoc]
theorem qkm {W : Int} {s : RS} {o : List Cel} {s' : RS} (hs : rsB s) (hW : 0 < W) (h : qdm W s = (o, true, s')) : ∃ ys zs, s = some ys ∧ s' = some zs ∧ ys = qU o ++ zs ∧ (o.length : Int) = W ∧ qbj o = true ∧ ∀ c ∈ o, cOk c := by
 unfold qdm at h
 cases s with
 | none =>
  obtain ⟨f, hf⟩ : ∃ f, W.toNat = f + 1 := ⟨W.toNat - 1, by omega⟩
  rw [hf, qbP, if_neg (by simpa using hW)] at h
  have : qi1 W [] none = (none, none) := by
   rw [qcv (n := 0) (s1 := none) (r := 0) (s2 := none) (t := qca) (ok := false) (s3 := none) rfl rfl rfl, if_pos (.inl rfl)]
  rw [this] at h
  simp at h
 | some ys =>
  split at h
  ·simp at h
  ·rename_i o2 s2 e
   split at h
   ·rename_i hw
    simp only [Prod.mk.injEq, true_and] at h
    obtain ⟨rfl, rfl⟩ := h
    obtain ⟨zs, q1, q2, q3, q4⟩ := qkl W.toNat W [] o2 ys s2 (hs ys rfl) (by simp; omega) (fun c hc => by cases hc) (by simp) e
    exact ⟨ys, zs, rfl, q1, q2, q3, hw, q4⟩
   ·simp at h
def qag (W : Int) : Nat → List (List Cel) → RS → Bool → List (List Cel) × RS × Bool
 | 0, out, s, f => (out, s, f)
 | k + 1, out, s, f => if (f && (qdm W s).2.1) = true then qag W k (out ++ [(qdm W s).1]) (qdm W s).2.2 true else ([], (qdm W s).2.2, false)
theorem qbm {W : Int} : ∀ (k : Nat) {out : List (List Cel)} {s : RS} {f : Bool}, rsB s → rsB (qag W k out s f).2.1
 | 0, _, _, _, h => h
 | k + 1, out, s, f, h => by
  rw [qag]
  split
  ·exact qbm k (qed h)
  ·exact qed h
theorem qcw {W : Int} (hW : 0 < W) : ∀ (k : Nat) {out L : List (List Cel)} {s s' : RS} {f : Bool}, rsB s → s.isSome = true ∨ 0 < k → qag W k out s f = (L, s', true) →
  ∃ M ys zs, f = true ∧ L = out ++ M ∧ s = some ys ∧ s' = some zs ∧ ys = M.flatMap qU ++ zs ∧ M.length = k ∧ ∀ l ∈ M, (l.length : Int) = W ∧ qbj l = true ∧ ∀ c ∈ l, cOk c
 | 0, out, L, s, s', f, hs, h0, h => by
  simp only [qag, Prod.mk.injEq] at h
  obtain ⟨rfl, rfl, rfl⟩ := h
  obtain ⟨ys, rfl⟩ := Option.isSome_iff_exists.1 (h0.resolve_right (by decide))
  exact ⟨[], ys, ys, rfl, (List.append_nil _).symm, rfl, rfl, rfl, rfl, fun l hl => by cases hl⟩
 | k + 1, out, L, s, s', f, hs, h0, h => by
  obtain ⟨l1, ok1, s1, hL⟩ : ∃ a b c, qdm W s = (a, b, c) := ⟨_, _, _, rfl⟩
  have hb := qed (W := W) hs
  rw [qag, hL] at h
  rw [hL] at hb
  dsimp only at h hb
  split at h
  ·rename_i hf
   rw [Bool.and_eq_true] at hf
   obtain ⟨hf, rfl⟩ := hf
   obtain ⟨ys, zs, e1, rfl, e3, e4, e5, e6⟩ := qkm hs hW hL
   obtain ⟨M, ys2, zs2, _, q1, q2, q3, q4, q5, q6⟩ := qcw hW k hb (.inl rfl) h
   obtain rfl := Option.some.inj q2
   exact ⟨l1 :: M, ys, zs2, hf, by rw [q1]; simp, e1, q3, by rw [e3, q4]; simp, by simp [q5], fun l hl => by
    rcases List.mem_cons.1 hl with rfl | hl
    ·exact ⟨e4, e5, e6⟩
    ·exact q6 l hl⟩
  ·simp at h
def qee : Nat → List (List Cel) → RS → Bool → List (List Cel) × RS × Bool
 | 0, out, s, f => (out, s, f)
 | k + 1, out, s, f => if ((qag (qP 61 s).1 1 [] (qP 61 s).2 f).2.2 && decide (0 < (qP 61 s).1)) = true then qee k (out ++ (qag (qP 61 s).1 1 [] (qP 61 s).2 f).1) (qag (qP 61 s).1 1 [] (qP 61 s).2 f).2.1 true else ([], (qag (qP 61 s).1 1 [] (qP 61 s).2 f).2.1, false)
def qfv (s : RS) (f : Bool) : List (List Cel) × RS × Bool := qee (qP 21 s).1.toNat [] (qP 21 s).2 f
def qgV (B : List (List Cel)) : List Int := B.flatMap fun l => qaA l.length ++ qU l
theorem qg5 : ∀ (k : Nat) {out : List (List Cel)} {s : RS} {f : Bool}, rsB s → rsB (qee k out s f).2.1
 | 0, _, _, _, h => h
 | k + 1, out, s, f, h => by
  rw [qee]
  split
  ·exact qg5 k (qbm 1 (qD h))
  ·exact qbm 1 (qD h)
theorem qg6 : ∀ (k : Nat) {out L : List (List Cel)} {s s' : RS} {f : Bool}, rsB s → s.isSome = true ∨ 0 < k → qee k out s f = (L, s', true) →
  ∃ M ys zs, f = true ∧ L = out ++ M ∧ s = some ys ∧ s' = some zs ∧ ys = qgV M ++ zs ∧ M.length = k ∧ ∀ l ∈ M, 0 < l.length ∧ l.length ≤ 60 ∧ qbj l = true ∧ ∀ c ∈ l, cOk c
 | 0, out, L, s, s', f, hs, h0, h => by
  simp only [qee, Prod.mk.injEq] at h
  obtain ⟨rfl, rfl, rfl⟩ := h
  obtain ⟨ys, rfl⟩ := Option.isSome_iff_exists.1 (h0.resolve_right (by decide))
  exact ⟨[], ys, ys, rfl, (List.append_nil _).symm, rfl, rfl, rfl, rfl, fun l hl => by cases hl⟩
 | k + 1, out, L, s, s', f, hs, h0, h => by
  obtain ⟨n, s1, hN⟩ : ∃ a b, qP 61 s = (a, b) := ⟨_, _, rfl⟩
  have hb := qD (lim := 61) hs
  rw [qee, hN] at h
  rw [hN] at hb
  dsimp only at h hb
  obtain ⟨L1, s2, f2, hL⟩ : ∃ a b c, qag n 1 [] s1 f = (a, b, c) := ⟨_, _, _, rfl⟩
  have hb2 := qbm (W := n) 1 (out := []) (f := f) hb
  rw [hL] at h hb2
  dsimp only at h hb2
  split at h
  ·rename_i hf
   rw [Bool.and_eq_true, decide_eq_true_eq] at hf
   obtain ⟨rfl, hw⟩ := hf
   obtain ⟨M1, y1, z1, f1, q1, rfl, rfl, q4, q5, q6⟩ := qcw hw 1 hb (.inr (by decide)) hL
   obtain ⟨ys, e1, e2, e3, e4, e5⟩ := qV hs hN
   obtain ⟨l, rfl⟩ : ∃ l, M1 = [l] := by
    match M1, q5 with
    | [l], _ => exact ⟨l, rfl⟩
   have hl := q6 l (List.mem_singleton.2 rfl)
   have e6 := e5 (by decide)
   obtain ⟨M, y2, z2, _, p1, p2, p3, p4, p5, p6⟩ := qg6 k hb2 (.inl rfl) h
   obtain rfl := Option.some.inj p2
   refine ⟨l :: M, ys, z2, f1, by rw [p1, q1]; simp, e1, p3, ?_, by simp [p5], fun m hm => ?_⟩
   ·rw [e2, q4, p4]
    unfold qgV
    rw [show n.toNat = l.length by have := hl.1; omega]
    simp
   ·rcases List.mem_cons.1 hm with rfl | hm
    ·exact ⟨by have := hl.1; omega, by have := hl.1; omega, hl.2⟩
    ·exact p6 m hm
  ·simp at h
theorem qkn {s s' : RS} {L : List (List Cel)} {f : Bool} (hs : rsB s) (h : qfv s f = (L, s', true)) (hz : s'.isSome = true) : ∃ ys zs, f = true ∧ s = some ys ∧ s' = some zs ∧ ys = qaA L.length ++ (qgV L ++ zs) ∧ L.length ≤ 20 ∧ ∀ l ∈ L, 0 < l.length ∧ l.length ≤ 60 ∧ qbj l = true ∧ ∀ c ∈ l, cOk c := by
 obtain ⟨n, s1, hN⟩ : ∃ a b, qP 21 s = (a, b) := ⟨_, _, rfl⟩
 have hb := qD (lim := 21) hs
 unfold qfv at h
 rw [hN] at h hb
 dsimp only at h hb
 have h0 : s1.isSome = true ∨ 0 < n.toNat := by
  rcases Nat.eq_zero_or_pos n.toNat with h1 | h1
  ·rw [h1] at h
   simp only [qee, Prod.mk.injEq] at h
   rw [h.2.1]; exact .inl hz
  ·exact .inr h1
 obtain ⟨M, y1, z1, f1, q1, rfl, q3, q4, q5, q6⟩ := qg6 _ hb h0 h
 obtain ⟨ys, e1, e2, e3, e4, e5⟩ := qV hs hN
 have e6 := e5 (by decide)
 rw [List.nil_append] at q1
 subst q1
 exact ⟨ys, z1, f1, e1, q3, by rw [e2, q4, q5], by omega, q6⟩
structure uR (u : US) : Prop where
 n : 0 ≤ u.n ∧ u.n ≤ 3
 b0 : u.n ≤ 0 → u.b0 = 0
 b1 : u.n ≤ 1 → u.b1 = 0
 b2 : u.n ≤ 2 → u.b2 = 0
 f : u.n = 0 ∨ qbw u.pend = false
theorem sz_all : ∀ c, c < 256 → ql .and .u8 (firstN c) 7 ≤ 4 := by decide +kernel
theorem uR0 : uR u0 := ⟨by decide, fun _ => rfl, fun _ => rfl, fun _ => rfl, .inl rfl⟩
theorem qm0 {l : List Int} (h : ∀ x ∈ l, 0 ≤ x ∧ x ≤ 255) : ∀ k, ¬ (0 < (itU l k).2.length ∧ qbw (itU l k).2 = true) ∨ (itU l k).2.length + k ≤ l.length
 | 0 => .inr (by show l.length + 0 ≤ l.length; omega)
 | k + 1 => by
  by_cases hc : 0 < (itU l k).2.length ∧ qbw (itU l k).2 = true
  ·have ih := (qm0 h k).resolve_left (fun h => h hc)
   right
   have := qis (qcK h k) hc.1
   rw [qfO hc.1 hc.2]
   simp only [List.length_drop]
   omega
  ·left
   have := qgB hc 1
   rw [this]; exact hc
theorem qm1 {u : US} (h : u.ok) {c : Int} (hc : 0 ≤ c ∧ c ≤ 255) : ((itU (u.pend ++ [c]) 4).2 = [] ∨ qbw (itU (u.pend ++ [c]) 4).2 = false) ∧ (itU (u.pend ++ [c]) 4).2.length ≤ 3 := by
 have hl : ∀ x ∈ u.pend ++ [c], 0 ≤ x ∧ x ≤ 255 := fun x hx => by
  rcases List.mem_append.1 hx with hx | hx
  ·exact h.pend x hx
  ·rw [List.mem_singleton.1 hx]; exact hc
 have hn : (u.pend ++ [c]).length ≤ 4 := by rw [List.length_append, h.len]; have := h.n; simp only [List.length_cons, List.length_nil]; omega
 have h1 : (itU (u.pend ++ [c]) 4).2 = [] ∨ qbw (itU (u.pend ++ [c]) 4).2 = false := by
  rcases qm0 hl 4 with h4 | h4
  ·rcases Nat.eq_zero_or_pos (itU (u.pend ++ [c]) 4).2.length with h0 | h0
   ·exact .inl (List.eq_nil_of_length_eq_zero h0)
   ·exact .inr (by cases e : qbw (itU (u.pend ++ [c]) 4).2 with
     | false => rfl
     | true => exact absurd ⟨h0, e⟩ h4)
  ·exact .inl (List.eq_nil_of_length_eq_zero (by omega))
 refine ⟨h1, ?_⟩
 rcases h1 with h1 | h1
 ·rw [h1]; exact Nat.zero_le _
 ·have hb := qcK hl 4
  have hs := sz_all ((itU (u.pend ++ [c]) 4).2.getD 0 0).toNat (by have := qaq hb (by decide) 0; omega)
  unfold qbw at h1
  split at h1
  ·rename_i h0; omega
  ·split at h1
   ·cases h1
   ·rename_i h0
    have hs' : szI (itU (u.pend ++ [c]) 4).2 ≤ 4 := hs
    omega
theorem qjo {l : List Int} (h : l.length ≤ 3) : (mkU l).pend = l := by
 unfold mkU US.pend
 simp only [Int.toNat_natCast]
 match l, h with
 | [], _ => rfl
 | [a], _ => rfl
 | [a, b], _ => rfl
 | [a, b, c], _ => rfl
theorem qm2 {u : US} (h : u.ok) {c : Int} (hc : 0 ≤ c ∧ c ≤ 255) : uR (qcC u c).1 := by
 obtain ⟨h1, h2⟩ := qm1 h hc
 show uR (mkU ((itU (u.pend ++ [c]) 4).2.take 3))
 rw [List.take_of_length_le h2]
 generalize (itU (u.pend ++ [c]) 4).2 = r at h1 h2
 have hg : ∀ i, r.length ≤ i → r.getD i 0 = 0 := fun i hi => by rw [List.getD, List.getElem?_eq_none hi]; rfl
 refine ⟨⟨Int.natCast_nonneg _, by show ((r.length : Nat) : Int) ≤ 3; omega⟩, fun e => hg 0 ?_, fun e => hg 1 ?_, fun e => hg 2 ?_, ?_⟩
 ·have e : ((r.length : Nat) : Int) ≤ 0 := e; omega
 ·have e : ((r.length : Nat) : Int) ≤ 1 := e; omega
 ·have e : ((r.length : Nat) : Int) ≤ 2 := e; omega
 ·rw [qjo h2]
  rcases h1 with rfl | h1
  ·exact .inl rfl
  ·exact .inr h1
def lowM (c : Int) : Prop := 32 ≤ c ∧ c < 48
def wideM (c : Int) : Prop := lowM c ∨ (60 ≤ c ∧ c ≤ 63)
def allB (f : Int → Prop) (s : ByteArray) : Prop := ∀ i : Nat, i < s.size → f (bt s (i : Int))
theorem qgW (f : Int → Prop) : allB f ByteArray.empty := fun i hi => by have : i < 0 := hi; omega
theorem qko {c : Int} (hc : 0 ≤ c ∧ c ≤ 255) : (qm [c]).size = 1 ∧ bt (qm [c]) 0 = c := by
 refine ⟨rfl, ?_⟩
 have : ∀ k : Nat, k < 256 → bt (qm [(k : Int)]) 0 = (k : Int) := by decide +kernel
 have := this c.toNat (by omega)
 rwa [show ((c.toNat : Nat) : Int) = c by omega] at this
theorem qfb {f : Int → Prop} {s : ByteArray} (h : allB f s) {c : Int} (hc : 0 ≤ c ∧ c ≤ 255) (hf : f c) : allB f (s ++ qm [c]) := fun i hi => by
 have hb := qko hc
 rw [ByteArray.size_append, hb.1] at hi
 unfold bt
 rw [dif_pos (show (i : Int).toNat < (s ++ qm [c]).size by rw [ByteArray.size_append, hb.1]; omega)]
 simp only [Int.toNat_natCast]
 by_cases h2 : i < s.size
 ·have := h i h2
  unfold bt at this
  rw [dif_pos (show (i : Int).toNat < s.size by omega)] at this
  simp only [Int.toNat_natCast] at this
  rw [ByteArray.getElem_append_left h2]; exact this
 ·have e : i = s.size := by omega
  subst e
  rw [ByteArray.getElem_append_right (Nat.le_refl _)]
  have h3 := hb.2
  unfold bt at h3
  rw [dif_pos (show (0 : Int).toNat < (qm [c]).size by rw [hb.1]; decide)] at h3
  simp only [Nat.sub_self]
  have h4 : (((qm [c])[0]'(by rw [hb.1]; decide)).toNat : Int) = c := h3
  rw [h4]; exact hf
structure PRight (p : PS) : Prop where
 st : 0 ≤ p.state ∧ p.state ≤ 7
 wi : p.state ≠ 7 → p.within = 0
 wc : p.state = 7 → p.within = 5 ∨ p.within = 6
 u : p.state ≠ 0 → p.utf = u0
 u' : uR p.utf
 m : p.state ≠ 2 → p.state ≠ 3 → p.state ≠ 4 → p.marks = ByteArray.empty
 n : p.state ≠ 3 → p.state ≠ 4 → p.params = []
 t : p.state ≤ 4 → p.text = ByteArray.empty
 m2 : p.state = 2 → 1 ≤ p.marks.size ∧ allB lowM p.marks
 m3 : p.state = 3 ∨ p.state = 4 → allB wideM p.marks
 t5 : allB (fun c => 32 ≤ c) p.text
theorem qdP {s : Int} (h : s = 0 ∨ s = 1 ∨ s = 3 ∨ s = 5 ∨ s = 6) : PRight (atP s) := by
 refine ⟨by show 0 ≤ s ∧ s ≤ 7; omega, fun _ => rfl, fun e => ?_, fun _ => rfl, uR0, fun _ _ _ => rfl, fun _ _ => rfl, fun _ => rfl, fun e => ?_, fun _ => qgW _, qgW _⟩
 ·have e : s = 7 := e; omega
 ·have e : s = 2 := e; omega
theorem qm3 {p : PS} (h : PRight p) (h0 : p.state = 0) {u : US} (hu : uR u) : PRight { p with utf := u } := { h with u := fun e => absurd h0 e, u' := hu }
theorem qaw {c : Prop} [Decidable c] {a b : PS × List Ac} (h1 : c → PRight a.1) (h2 : ¬ c → PRight b.1) : PRight (if c then a else b).1 := by
 split
 ·exact h1 ‹_›
 ·exact h2 ‹_›
theorem qm4 {p : PS} (h : PRight p) (hl : p.lim) (h0 : p.state = 0) {c : Int} (hc : 0 ≤ c ∧ c ≤ 255) : PRight (qM p c).1 := by
 unfold qM
 refine qaw (fun _ => ?_) fun _ => qm3 h h0 (qm2 hl.u hc)
 refine qaw (fun _ => qdP (.inr (.inl rfl))) fun _ => ?_
 exact qaw (fun _ => qm3 h h0 uR0) fun _ => qm3 h h0 (qm2 qiv hc)
theorem qm5 {p : PS} (h : PRight p) (h5 : p.state = 5 ∨ p.state = 6) {c : Int} (hc : 0 ≤ c ∧ c ≤ 255) : PRight (qL p c).1 := by
 unfold qL
 refine qaw (fun _ => ?_) fun _ => ?_
 ·exact ⟨(by show (0 : Int) ≤ 7 ∧ (7 : Int) ≤ 7; decide), fun e => absurd rfl e, fun _ => h5, fun _ => h.u (by omega), h.u', fun _ _ _ => h.m (by omega) (by omega) (by omega), fun _ _ => h.n (by omega) (by omega), fun e => absurd e (by show ¬ (7 : Int) ≤ 4; decide), fun e => absurd e (by show ¬ (7 : Int) = 2; decide), fun e => absurd e (by show ¬ ((7 : Int) = 3 ∨ (7 : Int) = 4); decide), h.t5⟩
 refine qaw (fun _ => qdP (.inl rfl)) fun _ => ?_
 refine qaw (fun _ => qdP (.inl rfl)) fun _ => ?_
 refine qaw (fun hx => ?_) fun _ => h
 exact { h with t := fun e => absurd e (by show ¬ p.state ≤ 4; omega), t5 := qfb h.t5 hc hx.1 }
theorem qm6 {p : PS} (h : PRight p) (h1 : p.state = 1 ∨ p.state = 2) {c : Int} (hc : 32 ≤ c ∧ c ≤ 255) : PRight (qu p c).1 := by
 unfold qu
 have hall : allB lowM p.marks := by
  rcases h1 with e | e
  ·rw [h.m (by omega) (by omega) (by omega)]; exact qgW _
  ·exact (h.m2 e).2
 have h2 : p.state = 2 → 1 ≤ p.marks.size := fun e => (h.m2 e).1
 refine qaw (fun h48 => ?_) fun _ => ?_
 ·show PRight (if _ then _ else _)
  split
  ·exact ⟨(by show (0 : Int) ≤ 2 ∧ (2 : Int) ≤ 7; decide), fun _ => h.wi (by omega), fun e => absurd e (by show ¬ (2 : Int) = 7; decide), fun _ => h.u (by omega), h.u', fun e => absurd rfl e, fun _ _ => h.n (by omega) (by omega), fun _ => h.t (by omega), fun _ => ⟨by show 1 ≤ (p.marks ++ qm [c]).size; rw [ByteArray.size_append, qaI]; omega, qfb hall ⟨by omega, hc.2⟩ ⟨hc.1, h48⟩⟩, fun e => absurd e (by show ¬ ((2 : Int) = 3 ∨ (2 : Int) = 4); decide), h.t5⟩
  ·rename_i hsz
   exact ⟨(by show (0 : Int) ≤ 2 ∧ (2 : Int) ≤ 7; decide), fun _ => h.wi (by omega), fun e => absurd e (by show ¬ (2 : Int) = 7; decide), fun _ => h.u (by omega), h.u', fun e => absurd rfl e, fun _ _ => h.n (by omega) (by omega), fun _ => h.t (by omega), fun _ => ⟨by show 1 ≤ p.marks.size; omega, hall⟩, fun e => absurd e (by show ¬ ((2 : Int) = 3 ∨ (2 : Int) = 4); decide), h.t5⟩
 refine qaw (fun _ => qdP (.inr (.inr (.inl rfl)))) fun _ => ?_
 refine qaw (fun _ => qdP (.inr (.inr (.inr (.inl rfl))))) fun _ => ?_
 refine qaw (fun _ => qdP (.inr (.inr (.inr (.inr rfl))))) fun _ => ?_
 exact qdP (.inl rfl)
theorem pr_csi {p : PS} (h : PRight p) (h3 : p.state = 3 ∨ p.state = 4) {c : Int} (hc : 32 ≤ c ∧ c ≤ 255) : PRight (qbi p c).1 := by
 have hp : ∀ l, PRight { p with params := l } := fun l => { h with n := fun e e' => absurd h3 (by show ¬ (p.state = 3 ∨ p.state = 4); exact fun h => h.elim e e') }
 unfold qbi
 refine qaw (fun _ => hp _) fun hd => ?_
 refine qaw (fun _ => ?_) fun hs => ?_
 ·show PRight (if _ then _ else _)
  split <;> exact hp _
 refine qaw (fun _ => qaw (fun _ => qdP (.inl rfl)) fun _ => qdP (.inl rfl)) fun h64 => ?_
 refine qaw (fun _ => ?_) fun hm => ?_
 ·exact ⟨(by show (0 : Int) ≤ 4 ∧ (4 : Int) ≤ 7; decide), fun _ => h.wi (by omega), fun e => absurd e (by show ¬ (4 : Int) = 7; decide), fun _ => h.u (by omega), h.u', fun _ _ e => absurd rfl e, fun _ e => absurd rfl e, fun _ => h.t (by omega), fun e => absurd e (by show ¬ (4 : Int) = 2; decide), fun _ => h.m3 h3, h.t5⟩
 ·exact { h with m := fun e e' e'' => absurd h3 (by show ¬ (p.state = 3 ∨ p.state = 4); exact fun h => h.elim e' e''), m2 := fun e => (by have e : p.state = 2 := e; omega), m3 := fun _ => qfb (h.m3 h3) ⟨by omega, hc.2⟩ (by unfold wideM lowM; omega) }
theorem qjp {p : PS} (h : PRight p) (hl : p.lim) (h7 : p.state ≠ 7) {c : Int} (hc : 0 ≤ c ∧ c ≤ 255) : PRight (qav p c).1 := by
 have hst := h.st
 unfold qav
 refine qaw (fun h0 => qm4 h hl h0 hc) fun h0 => ?_
 refine qaw (fun h5 => qm5 h (by omega) hc) fun h5 => ?_
 refine qaw (fun _ => qdP (.inl rfl)) fun _ => ?_
 refine qaw (fun _ => qdP (.inr (.inl rfl))) fun _ => ?_
 refine qaw (fun _ => h) fun h32 => ?_
 refine qaw (fun _ => h) fun _ => ?_
 refine qaw (fun h3 => pr_csi h h3 ⟨by omega, hc.2⟩) fun h3 => ?_
 exact qm6 h (by omega) ⟨by omega, hc.2⟩
theorem pr_feed {p : PS} (h : PRight p) (hl : p.lim) {c : Int} (hc : 0 ≤ c ∧ c ≤ 255) : PRight (qb2 p c).1 := by
 unfold qb2
 refine qaw (fun h7 => ?_) fun h7 => qjp h hl h7 hc
 exact qaw (fun _ => qdP (.inl rfl)) fun _ => qjp (qdP (.inr (.inl rfl))) (qbe 1) (by show (1 : Int) ≠ 7; decide) hc
theorem qi2 {T : TS} (h : PRight T.parser) (hl : T.parser.lim) (s : ByteArray) : ∀ k, PRight (qcO T s k).parser
 | 0 => h
 | k + 1 => by rw [qcO, qlH]; exact pr_feed (qi2 h hl s k) (qd6 hl s k) (qcr s _)
theorem pr_do {T : TS} (h : PRight T.parser) (hl : T.parser.lim) (x : Stp) : PRight (doT T x).parser := by
 unfold doT
 split
 ·exact qi2 h hl _ _
 ·rw [qdM]; exact h
def qc5 (c : Cur) : List Int := qaA c.x.toNat ++ (qaA c.y.toNat ++ (qaA (qY [c.late]) ++ qaA (qc4 c.sty)))
def qi3 (W H : Int) (s : RS) : Cur × Bool × RS :=
  (⟨(qP W s).1, (qP H (qP W s).2).1, (qP 2 (qP H (qP W s).2).2).1 == 1, (qft (qP 2 (qP H (qP W s).2).2).2).1⟩,
   (qft (qP 2 (qP H (qP W s).2).2).2).2.1 && (!((qP 2 (qP H (qP W s).2).2).1 == 1) || (qP W s).1 == W - 1), (qft (qP 2 (qP H (qP W s).2).2).2).2.2)
theorem qfc {W H : Int} {s s1 s2 s3 s4 : RS} {x y l : Int} {t : Sty} {ok : Bool} (h1 : qP W s = (x, s1)) (h2 : qP H s1 = (y, s2)) (h3 : qP 2 s2 = (l, s3)) (h4 : qft s3 = (t, ok, s4)) :
    qi3 W H s = (⟨x, y, l == 1, t⟩, ok && (!(l == 1) || x == W - 1), s4) := by
  unfold qi3
  rw [h1]
  dsimp only
  rw [h2]
  dsimp only
  rw [h3]
  dsimp only
  rw [h4]
structure CurOk (W H : Int) (c : Cur) : Prop where
  x : 0 ≤ c.x ∧ c.x < W
  y : 0 ≤ c.y ∧ c.y < H
  l : c.late = true → c.x = W - 1
  s : qA c.sty = true
theorem qfd {W H : Int} {s : RS} (hs : rsB s) : rsB (qi3 W H s).2.2 := qi0 (qD (qD (qD hs)))
theorem qfe {W H : Int} {s s' : RS} {c : Cur} (hs : rsB s) (hW : 0 < W) (hH : 0 < H) (h : qi3 W H s = (c, true, s')) : ∃ ys zs, s = some ys ∧ s' = some zs ∧ ys = qc5 c ++ zs ∧ CurOk W H c := by
  obtain ⟨x, s1, h1⟩ : ∃ n s1, qP W s = (n, s1) := ⟨_, _, rfl⟩
  obtain ⟨y, s2, h2⟩ : ∃ n s', qP H s1 = (n, s') := ⟨_, _, rfl⟩
  obtain ⟨l, s3, h3⟩ : ∃ n s', qP 2 s2 = (n, s') := ⟨_, _, rfl⟩
  obtain ⟨t, ok, s4, h4⟩ : ∃ n o s', qft s3 = (n, o, s') := ⟨_, _, _, rfl⟩
  rw [qfc h1 h2 h3 h4] at h
  simp only [Prod.mk.injEq, Bool.and_eq_true, Bool.or_eq_true, Bool.not_eq_true'] at h
  obtain ⟨rfl, ⟨rfl, hl⟩, rfl⟩ := h
  have b1 := qD (lim := W) hs; rw [h1] at b1
  have b2 := qD (lim := H) b1; rw [h2] at b2
  have b3 := qD (lim := 2) b2; rw [h3] at b3
  obtain ⟨y4, z4, e4, e4', e4'', hst⟩ := qhZ b3 h4
  subst e4 e4'
  obtain ⟨y3, e3, e3', p3, p3', p3''⟩ := qV b2 h3
  subst e3
  obtain ⟨y2, e2, e2', p2, p2', p2''⟩ := qV b1 h2
  subst e2
  obtain ⟨y1, e1, e1', p1, p1', p1''⟩ := qV hs h1
  have q3 := p3'' (by decide)
  refine ⟨y1, z4, e1, rfl, ?_, ⟨⟨p1, p1'' hW⟩, ⟨p2, p2'' hH⟩, fun hh => ?_, hst⟩⟩
  · unfold qc5
    have : qY [l == 1] = l.toNat := by
      have : l = 0 ∨ l = 1 := by omega
      rcases this with rfl | rfl <;> rfl
    dsimp only
    rw [this, e1', e2', e3', e4'']
    simp only [List.append_assoc]
  · dsimp only at hh
    rcases hl with hl | hl
    · rw [hl] at hh; cases hh
    · exact beq_iff_eq.1 hl
def qiG (c : Int) : Bool := decide (32 ≤ c) && decide (c < 48)
def qbE (c : Int) : Bool := qiG c || (decide (60 ≤ c) && decide (c ≤ 63))
def zb (s : ByteArray) : Bool := s.toList == ByteArray.empty.toList
def utB (u : US) : Bool := decide (0 ≤ u.n) && decide (u.n ≤ 3) && ([u.b0, u.b1, u.b2].drop u.n.toNat).all (· == 0) && (u.n == 0 || !qbw u.pend)
def qcE (u : US) : Bool := u.b0 == 0 && u.b1 == 0 && u.b2 == 0 && u.n == 0
def qby (p : PS) : Bool := zb p.marks && p.params.length == 0
def qb4 (lo : Nat) (f : Int → Bool) (m : ByteArray) : Bool := decide (lo ≤ m.size) && decide (m.size ≤ 2) && (List.range m.size).all fun i => f (bt m (i : Int))
def qex (l : List Int) : Bool := l.all (fun n => decide (0 ≤ n) && decide (n ≤ 9999)) && decide (l.length ≤ 8)
def qef (x : ByteArray) : Bool := ((List.range x.size).all fun i => decide (32 ≤ bt x (i : Int))) && decide (x.size ≤ 40)
def qt (p : PS) : Bool :=
  if (p.state ≠ 7 ∧ p.within ≠ 0) ∨ (p.state ≠ 0 ∧ qcE p.utf = false) then false
  else if p.state = 0 then utB p.utf && qby p && zb p.text
  else if p.state = 1 then qby p && zb p.text
  else if p.state = 2 then qb4 1 qiG p.marks && p.params.length == 0 && zb p.text
  else if p.state = 3 ∨ p.state = 4 then qb4 0 qbE p.marks && qex p.params && zb p.text
  else if p.state = 7 then (if p.within ≠ 5 ∧ p.within ≠ 6 then false else qby p && qef p.text)
  else if p.state = 5 ∨ p.state = 6 then qby p && qef p.text
  else false
def qfw (p : PS) : List Int := qaA p.state.toNat ++ (qaA p.within.toNat ++ (qde (qm p.utf.pend) ++ (qde p.marks ++ (qaA p.params.length ++ (p.params.flatMap (fun n => qaA n.toNat) ++ qde p.text)))))
def qey : Nat → List Int → RS → List Int × RS
  | 0, l, s => (l, s)
  | k + 1, l, s => qey k (l ++ [(qP 10000 s).1]) (qP 10000 s).2
theorem qg7 : ∀ (k : Nat) {l : List Int} {s : RS}, rsB s → rsB (qey k l s).2
  | 0, _, _, h => h
  | k + 1, l, s, h => qg7 k (qD h)
theorem qg8 : ∀ (k : Nat) {l L : List Int} {s : RS} {zs : List Int}, rsB s → qey k l s = (L, some zs) → ∃ M ys, L = l ++ M ∧ s = some ys ∧ ys = M.flatMap (fun n => qaA n.toNat) ++ zs ∧ M.length = k ∧ ∀ n ∈ M, 0 ≤ n ∧ n ≤ 9999
  | 0, l, L, s, zs, hs, h => by
    simp only [qey, Prod.mk.injEq] at h
    obtain ⟨rfl, rfl⟩ := h
    exact ⟨[], zs, (List.append_nil _).symm, rfl, rfl, rfl, fun n hn => by cases hn⟩
  | k + 1, l, L, s, zs, hs, h => by
    obtain ⟨n, s1, hN⟩ : ∃ a b, qP 10000 s = (a, b) := ⟨_, _, rfl⟩
    have hb := qD (lim := 10000) hs
    rw [qey, hN] at h
    rw [hN] at hb
    dsimp only at h hb
    obtain ⟨M, ys, q1, rfl, q3, q4, q5⟩ := qg8 k hb h
    obtain ⟨us, e1, e2, e3, e4, e5⟩ := qV hs hN
    have e6 := e5 (by decide)
    refine ⟨n :: M, us, by rw [q1]; simp, e1, by rw [e2, q3]; simp, by simp [q4], fun x hx => ?_⟩
    rcases List.mem_cons.1 hx with rfl | hx
    · exact ⟨e3, by omega⟩
    · exact q5 x hx
def qi4 (s : RS) (f : Bool) : PS × RS × Bool :=
  let st := qP 8 s
  let wi := qP 8 st.2
  let u := qb6 3 wi.2
  let m := qb6 2 u.2
  let n := qP 9 m.2
  let q := qey n.1.toNat [] n.2
  let x := qb6 40 q.2
  (⟨st.1, mkU (qaC u.1), m.1, q.1, x.1, wi.1⟩, x.2, f && qt ⟨st.1, mkU (qaC u.1), m.1, q.1, x.1, wi.1⟩)
theorem qgX {s s1 s2 s3 s4 s5 s6 s7 : RS} {f : Bool} {st wi n : Int} {u m x : ByteArray} {q : List Int} (h1 : qP 8 s = (st, s1)) (h2 : qP 8 s1 = (wi, s2)) (h3 : qb6 3 s2 = (u, s3)) (h4 : qb6 2 s3 = (m, s4)) (h5 : qP 9 s4 = (n, s5)) (h6 : qey n.toNat [] s5 = (q, s6)) (h7 : qb6 40 s6 = (x, s7)) :
    qi4 s f = (⟨st, mkU (qaC u), m, q, x, wi⟩, s7, f && qt ⟨st, mkU (qaC u), m, q, x, wi⟩) := by
  unfold qi4
  rw [h1]
  dsimp only
  rw [h2]
  dsimp only
  rw [h3]
  dsimp only
  rw [h4]
  dsimp only
  rw [h5]
  dsimp only
  rw [h6]
  dsimp only
  rw [h7]
structure ParsOk (p : PS) : Prop where
  st : 0 ≤ p.state ∧ p.state < 8
  wi : 0 ≤ p.within ∧ p.within < 8
  u : p.utf.ok
  un : (p.utf.n).toNat = p.utf.pend.length ∧ p.utf.pend.length ≤ 3
  m : p.marks.size ≤ 2
  n : p.params.length ≤ 8
  b : ∀ x ∈ p.params, 0 ≤ x ∧ x ≤ 9999
  t : p.text.size ≤ 40
  r : qt p = true
theorem qkp {s : RS} {f : Bool} {p : PS} {zs : List Int} (hs : rsB s) (h : qi4 s f = (p, some zs, true)) : ∃ ys, s = some ys ∧ ys = qfw p ++ zs ∧ f = true ∧ ParsOk p := by
  obtain ⟨st, s1, h1⟩ : ∃ n s1, qP 8 s = (n, s1) := ⟨_, _, rfl⟩
  obtain ⟨wi, s2, h2⟩ : ∃ n s', qP 8 s1 = (n, s') := ⟨_, _, rfl⟩
  obtain ⟨u, s3, h3⟩ : ∃ n s', qb6 3 s2 = (n, s') := ⟨_, _, rfl⟩
  obtain ⟨m, s4, h4⟩ : ∃ n s', qb6 2 s3 = (n, s') := ⟨_, _, rfl⟩
  obtain ⟨n, s5, h5⟩ : ∃ n s', qP 9 s4 = (n, s') := ⟨_, _, rfl⟩
  obtain ⟨q, s6, h6⟩ : ∃ q s', qey n.toNat [] s5 = (q, s') := ⟨_, _, rfl⟩
  obtain ⟨x, s7, h7⟩ : ∃ n s', qb6 40 s6 = (n, s') := ⟨_, _, rfl⟩
  rw [qgX h1 h2 h3 h4 h5 h6 h7] at h
  simp only [Prod.mk.injEq, Bool.and_eq_true] at h
  obtain ⟨rfl, rfl, rfl, hr⟩ := h
  have b1 := qD (lim := 8) hs; rw [h1] at b1
  have b2 := qD (lim := 8) b1; rw [h2] at b2
  have b3 := qd8 (most := 3) b2; rw [h3] at b3
  have b4 := qd8 (most := 2) b3; rw [h4] at b4
  have b5 := qD (lim := 9) b4; rw [h5] at b5
  have b6 := qg7 n.toNat (l := []) b5; rw [h6] at b6
  obtain ⟨y7, e7, e7', p7⟩ := qcp b6 h7 (by decide)
  subst e7
  obtain ⟨M, y6, e6, e6', e6'', p6, p6'⟩ := qg8 _ b5 h6
  rw [List.nil_append] at e6
  subst e6 e6'
  obtain ⟨y5, e5, e5', p5, _, p5'⟩ := qV b4 h5
  subst e5
  obtain ⟨y4, e4, e4', p4⟩ := qcp b3 h4 (by decide)
  subst e4
  obtain ⟨y3, e3, e3', p3⟩ := qcp b2 h3 (by decide)
  subst e3
  obtain ⟨y2, e2, e2', p2, _, p2'⟩ := qV b1 h2
  subst e2
  obtain ⟨y1, e1, e1', p1, _, p1'⟩ := qV hs h1
  have hl3 : (qaC u).length ≤ 3 := by rw [qbX]; omega
  have hpe := qjo hl3
  have hub : qm (qaC u) = u := by
    have : (qm (qaC u)).data.toList = u.data.toList := by
      rw [qcS]
      unfold qaC
      rw [List.map_map]
      refine (List.map_congr_left fun b _ => ?_).trans (List.map_id _)
      show UInt8.ofNat ((b.toNat : Int).toNat) = b
      rw [Int.toNat_natCast]; exact UInt8.ofNat_toNat
    cases hA : qm (qaC u) with
    | mk a =>
      rw [hA] at this
      cases u with
      | mk b => exact congrArg ByteArray.mk (Array.toList_inj.1 this)
  have q5 := p5' (by decide)
  refine ⟨y1, e1, ?_, rfl, ⟨⟨p1, p1' (by decide)⟩, ⟨p2, p2' (by decide)⟩, qlq (qf8 u) hl3, ?_, by dsimp only; omega, by dsimp only; omega, p6', by dsimp only; omega, hr⟩⟩
  · unfold qfw
    dsimp only
    rw [hpe, hub, e1', e2', e3', e4', e5', e6'', e7', ← p6]
    simp only [List.append_assoc]
  · dsimp only
    rw [hpe]
    exact ⟨by show (((qaC u).length : Nat) : Int).toNat = _; omega, hl3⟩
def qet (T : TS) : List Bool := [T.wrap, T.origin, T.insert, T.hidden, T.alt, T.draw0, T.draw1, T.shift]
def qeg (T : TS) : List Int := qaA T.grid.w.toNat ++ (qaA T.grid.h.toNat ++ (qaA T.top.toNat ++ (qaA T.bot.toNat ++ (qaA (qY (qet T)) ++ (qaA (qaB T.tabs 60) ++ (qc5 T.cursor ++ (qc5 T.saved ++ (qc5 T.away ++
  (T.grid.lines.flatMap qU ++ (T.other.lines.flatMap qU ++ (qaA T.back.length ++ (qgV T.back ++ (qde T.title ++ (qde T.reply ++ qfw T.parser))))))))))))))
def qi5 (tb k : Nat) (i : Nat) : Bool := if i < k then qes tb i else qgD 7 i
def qgY (w h top bot n tb : Int) : TS := { qa3 zeroT w h with top := top, bot := bot, wrap := qes n.toNat 0, origin := qes n.toNat 1, insert := qes n.toNat 2, hidden := qes n.toNat 3, alt := qes n.toNat 4, draw0 := qes n.toNat 5, draw1 := qes n.toNat 6, shift := qes n.toNat 7, tabs := qi5 tb.toNat 60 }
def qkq (T : TS) (W H : Int) (s : RS) : Option TS :=
  let a := qi3 W H s
  let b := qi3 W H a.2.2
  let c := qi3 W H b.2.2
  let d := qag W H.toNat [] c.2.2 ((a.2.1 && b.2.1) && c.2.1)
  let e := qag W H.toNat [] d.2.1 d.2.2
  let k := qfv e.2.1 e.2.2
  let t := qb6 40 k.2.1
  let r := qb6 400 t.2
  let p := qi4 r.2 k.2.2
  if p.2.2 = true ∧ p.2.1 = some [] then some { T with cursor := a.1, saved := b.1, away := c.1, grid := ⟨W, H, d.1⟩, other := ⟨W, H, e.1⟩, back := k.1, title := t.1, reply := r.1, parser := p.1 } else none
def qgZ (s : RS) : Option TS × RS :=
  let w := qP 61 s
  let h := qP 61 w.2
  let a := qP (h.1 + 1) h.2
  let b := qP (h.1 + 1) a.2
  let n := qP 256 b.2
  let t := qP 1152921504606846976 n.2
  if t.2.isSome = false ∨ w.1 < 1 ∨ h.1 < 1 ∨ b.1 ≤ a.1 then (none, t.2) else (some (qgY w.1 h.1 a.1 b.1 n.1 t.1), t.2)
theorem qdb {s s1 s2 s3 s4 s5 s6 : RS} {w v a b n t : Int} (h1 : qP 61 s = (w, s1)) (h2 : qP 61 s1 = (v, s2)) (h3 : qP (v + 1) s2 = (a, s3)) (h4 : qP (v + 1) s3 = (b, s4)) (h5 : qP 256 s4 = (n, s5)) (h6 : qP 1152921504606846976 s5 = (t, s6)) :
    qgZ s = if s6.isSome = false ∨ w < 1 ∨ v < 1 ∨ b ≤ a then (none, s6) else (some (qgY w v a b n t), s6) := by
  unfold qgZ
  rw [h1]
  dsimp only
  rw [h2]
  dsimp only
  rw [h3]
  dsimp only
  rw [h4]
  dsimp only
  rw [h5]
  dsimp only
  rw [h6]
def decT (s : RS) : Option TS := match qgZ s with
  | (none, _) => none
  | (some T, s1) => qkq T T.grid.w T.grid.h s1
structure DecOk (T : TS) : Prop where
  w : 1 ≤ T.grid.w ∧ T.grid.w ≤ 60
  h : 1 ≤ T.grid.h ∧ T.grid.h ≤ 60
  o : T.other.w = T.grid.w ∧ T.other.h = T.grid.h
  t : 0 ≤ T.top ∧ T.top < T.bot ∧ T.bot ≤ T.grid.h
  c : CurOk T.grid.w T.grid.h T.cursor
  s : CurOk T.grid.w T.grid.h T.saved
  a : CurOk T.grid.w T.grid.h T.away
  g : T.grid.lines.length = T.grid.h.toNat ∧ ∀ l ∈ T.grid.lines, (l.length : Int) = T.grid.w ∧ qbj l = true ∧ ∀ c ∈ l, cOk c
  g2 : T.other.lines.length = T.grid.h.toNat ∧ ∀ l ∈ T.other.lines, (l.length : Int) = T.grid.w ∧ qbj l = true ∧ ∀ c ∈ l, cOk c
  k : T.back.length ≤ 20 ∧ ∀ l ∈ T.back, 0 < l.length ∧ l.length ≤ 60 ∧ qbj l = true ∧ ∀ c ∈ l, cOk c
  ti : T.title.size ≤ 40
  r : T.reply.size ≤ 400
  p : ParsOk T.parser
theorem qkr {T T' : TS} {W H : Int} {s : RS} (hs : rsB s) (hW : 1 ≤ W ∧ W ≤ 60) (hH : 1 ≤ H ∧ H ≤ 60) (ht : 0 ≤ T.top ∧ T.top < T.bot ∧ T.bot ≤ H) (h : qkq T W H s = some T') : ∃ ys, s = some ys ∧
    ys = qc5 T'.cursor ++ (qc5 T'.saved ++ (qc5 T'.away ++ (T'.grid.lines.flatMap qU ++ (T'.other.lines.flatMap qU ++ (qaA T'.back.length ++ (qgV T'.back ++ (qde T'.title ++ (qde T'.reply ++ qfw T'.parser)))))))) ∧ DecOk T' ∧ T'.grid.w = W ∧ T'.grid.h = H ∧ T'.top = T.top ∧ T'.bot = T.bot ∧ qet T' = qet T ∧ T'.tabs = T.tabs := by
  obtain ⟨a, ha, s1, h1⟩ : ∃ a o s1, qi3 W H s = (a, o, s1) := ⟨_, _, _, rfl⟩
  obtain ⟨b, hb, s2, h2⟩ : ∃ a o s', qi3 W H s1 = (a, o, s') := ⟨_, _, _, rfl⟩
  obtain ⟨c, hc, s3, h3⟩ : ∃ a o s', qi3 W H s2 = (a, o, s') := ⟨_, _, _, rfl⟩
  obtain ⟨d, s4, f4, h4⟩ : ∃ d s' f, qag W H.toNat [] s3 ((ha && hb) && hc) = (d, s', f) := ⟨_, _, _, rfl⟩
  obtain ⟨e, s5, f5, h5⟩ : ∃ d s' f, qag W H.toNat [] s4 f4 = (d, s', f) := ⟨_, _, _, rfl⟩
  obtain ⟨k, s6, f6, h6⟩ : ∃ d s' f, qfv s5 f5 = (d, s', f) := ⟨_, _, _, rfl⟩
  obtain ⟨t, s7, h7⟩ : ∃ d s', qb6 40 s6 = (d, s') := ⟨_, _, rfl⟩
  obtain ⟨r, s8, h8⟩ : ∃ d s', qb6 400 s7 = (d, s') := ⟨_, _, rfl⟩
  obtain ⟨p, s9, f9, h9⟩ : ∃ d s' f, qi4 s8 f6 = (d, s', f) := ⟨_, _, _, rfl⟩
  unfold qkq at h
  rw [h1] at h
  dsimp only at h
  rw [h2] at h
  dsimp only at h
  rw [h3] at h
  dsimp only at h
  rw [h4] at h
  dsimp only at h
  rw [h5] at h
  dsimp only at h
  rw [h6] at h
  dsimp only at h
  rw [h7] at h
  dsimp only at h
  rw [h8] at h
  dsimp only at h
  rw [h9] at h
  dsimp only at h
  split at h
  · rename_i hz
    obtain ⟨rfl, rfl⟩ := hz
    obtain rfl := Option.some.inj h
    have b1 := qfd (W := W) (H := H) hs; rw [h1] at b1
    have b2 := qfd (W := W) (H := H) b1; rw [h2] at b2
    have b3 := qfd (W := W) (H := H) b2; rw [h3] at b3
    have b4 := qbm (W := W) H.toNat (out := []) (f := (ha && hb) && hc) b3; rw [h4] at b4
    have b5 := qbm (W := W) H.toNat (out := []) (f := f4) b4; rw [h5] at b5
    have b6 : rsB s6 := by have := qg5 (qP 21 s5).1.toNat (out := []) (f := f5) (qD (lim := 21) b5); have e : qee (qP 21 s5).1.toNat [] (qP 21 s5).2 f5 = (k, s6, f6) := h6; rw [e] at this; exact this
    have b7 := qd8 (most := 40) b6; rw [h7] at b7
    have b8 := qd8 (most := 400) b7; rw [h8] at b8
    obtain ⟨y9, e9, e9', rfl, hp⟩ := qkp b8 h9
    subst e9
    obtain ⟨y8, e8, e8', hr⟩ := qcp b7 h8 (by decide)
    subst e8
    obtain ⟨y7, e7, e7', hti⟩ := qcp b6 h7 (by decide)
    subst e7
    obtain ⟨y6, z6, f6', e6, e6', e6'', hk1, hk2⟩ := qkn b5 h6 rfl
    subst f6' e6
    obtain rfl := Option.some.inj e6'
    obtain ⟨M2, y5, z5, f5', q2, e5, e5', e5'', hg2, hg2'⟩ := qcw (by omega) _ b4 (.inr (by omega)) h5
    rw [List.nil_append] at q2
    subst q2 f5' e5
    obtain rfl := Option.some.inj e5'
    obtain ⟨M1, y4, z4, f4', q1, e4, e4', e4'', hg1, hg1'⟩ := qcw (by omega) _ b3 (.inr (by omega)) h4
    rw [List.nil_append] at q1
    subst q1 e4
    obtain rfl := Option.some.inj e4'
    rw [Bool.and_eq_true, Bool.and_eq_true] at f4'
    obtain ⟨⟨rfl, rfl⟩, rfl⟩ := f4'
    obtain ⟨y3, z3, e3, e3', e3'', hc3⟩ := qfe b2 (by omega) (by omega) h3
    subst e3
    obtain rfl := Option.some.inj e3'
    obtain ⟨y2, z2, e2, e2', e2'', hc2⟩ := qfe b1 (by omega) (by omega) h2
    subst e2
    obtain rfl := Option.some.inj e2'
    obtain ⟨y1, z1, e1, e1', e1'', hc1⟩ := qfe hs (by omega) (by omega) h1
    obtain rfl := Option.some.inj e1'
    refine ⟨y1, e1, ?_, ⟨hW, hH, ⟨rfl, rfl⟩, ht, hc1, hc2, hc3, ⟨hg1, hg1'⟩, ⟨hg2, hg2'⟩, ⟨hk1, hk2⟩, by dsimp only; omega, by dsimp only; omega, hp⟩, rfl, rfl, rfl, rfl, rfl, rfl⟩
    dsimp only
    rw [e1'', e2'', e3'', e4'', e5'', e6'', e7', e8', e9', List.append_nil]
  · cases h
theorem qm7 {s : RS} {T : TS} (hs : rsB s) (h : decT s = some T) : ∃ ys, s = some ys ∧ ys = qeg T ∧ DecOk T := by
  obtain ⟨w, s1, h1⟩ : ∃ d s', qP 61 s = (d, s') := ⟨_, _, rfl⟩
  obtain ⟨v, s2, h2⟩ : ∃ d s', qP 61 s1 = (d, s') := ⟨_, _, rfl⟩
  obtain ⟨a, s3, h3⟩ : ∃ d s', qP (v + 1) s2 = (d, s') := ⟨_, _, rfl⟩
  obtain ⟨b, s4, h4⟩ : ∃ d s', qP (v + 1) s3 = (d, s') := ⟨_, _, rfl⟩
  obtain ⟨n, s5, h5⟩ : ∃ d s', qP 256 s4 = (d, s') := ⟨_, _, rfl⟩
  obtain ⟨t, s6, h6⟩ : ∃ d s', qP 1152921504606846976 s5 = (d, s') := ⟨_, _, rfl⟩
  unfold decT at h
  rw [qdb h1 h2 h3 h4 h5 h6] at h
  split at h
  · cases h
  · rename_i T0 s7 e0
    split at e0
    · cases e0
    rename_i hc
    simp only [Prod.mk.injEq, Option.some.injEq] at e0
    obtain ⟨rfl, rfl⟩ := e0
    simp only [not_or] at hc
    obtain ⟨c1, c2, c3, c4⟩ := hc
    have b1 := qD (lim := 61) hs; rw [h1] at b1
    have b2 := qD (lim := 61) b1; rw [h2] at b2
    have b3 := qD (lim := v + 1) b2; rw [h3] at b3
    have b4 := qD (lim := v + 1) b3; rw [h4] at b4
    have b5 := qD (lim := 256) b4; rw [h5] at b5
    have b6 := qD (lim := 1152921504606846976) b5; rw [h6] at b6
    have w1 := qa7 (lim := 61) (s := s); rw [h1] at w1
    have v1 := qa7 (lim := 61) (s := s1); rw [h2] at v1
    have w2 := w1.2.2 (by decide)
    have v2 := v1.2.2 (by decide)
    dsimp only at w1 v1 w2 v2
    have a1 := qa7 (lim := v + 1) (s := s2); rw [h3] at a1
    have bb1 := qa7 (lim := v + 1) (s := s3); rw [h4] at bb1
    have a2 := a1.2.2 (by omega)
    have bb2 := bb1.2.2 (by omega)
    dsimp only at a1 bb1 a2 bb2
    have hsw : (qgY w v a b n t).grid.w = w := by show qk w = w; unfold qk; omega
    have hsv : (qgY w v a b n t).grid.h = v := by show qk v = v; unfold qk; omega
    rw [hsw, hsv] at h
    obtain ⟨y6, e6, e6', hd, r1, r2, r3, r4, r5, r6⟩ := qkr b6 (by omega) (by omega) (by show 0 ≤ a ∧ a < b ∧ b ≤ v; omega) h
    subst e6
    obtain ⟨y5, e5, e5', p5, _, p5'⟩ := qV b5 h6
    subst e5
    obtain ⟨y4, e4, e4', p4, _, p4'⟩ := qV b4 h5
    subst e4
    obtain ⟨y3, e3, e3', _⟩ := qV b3 h4
    subst e3
    obtain ⟨y2, e2, e2', _⟩ := qV b2 h3
    subst e2
    obtain ⟨y1, e1, e1', _⟩ := qV b1 h2
    subst e1
    obtain ⟨y0, e0, e0', _⟩ := qV hs h1
    refine ⟨y0, e0, ?_, hd⟩
    have q4 := p4' (by decide)
    have q5 := p5' (by decide)
    have m1 : qY (qet T) = n.toNat := by
      rw [r5]
      have : qY (qet (qgY w v a b n t)) = qaB (qes n.toNat) 8 := qbY fun i hi => by
        have : i = 0 ∨ i = 1 ∨ i = 2 ∨ i = 3 ∨ i = 4 ∨ i = 5 ∨ i = 6 ∨ i = 7 := by have : i < 8 := hi; omega
        rcases this with rfl | rfl | rfl | rfl | rfl | rfl | rfl | rfl <;> rfl
      rw [this, qec]
      exact Nat.mod_eq_of_lt (by omega)
    have m2 : qaB T.tabs 60 = t.toNat := by
      rw [r6]
      have : qaB (qgY w v a b n t).tabs 60 = qaB (qes t.toNat) 60 := qbY fun i hi => by show (if i < 60 then _ else _) = _; rw [if_pos hi]
      rw [this, qec]
      exact Nat.mod_eq_of_lt (by omega)
    unfold qeg
    rw [m1, m2, r1, r2, r3, r4, e0', e1', e2', e3', e4', e5', e6']
    rfl
section
variable {P : Program} {N : Nat} {ops : Array Oper} {Q : Exit → Act → World → Prop} {f : Fr} {k : Nat} {K : Act → World → Prop} {w : World}
def qiH (P : Program) (N : Nat) (ops : Array Oper) (f : Fr) (k : Nat) : Option (FuncId × List Value × Option Tmp) :=
 match qgg N ops f k with
 | some (.call ⟨.value x, args, _⟩, d) => match ev f x with
  | some (.func (.func g) ⟨[]⟩ ⟨[]⟩) => if qdw P g then (evs f args.toList).map fun vs => (g, vs, d) else none
  | _ => none
 | _ => none
theorem e_callT {g : FuncId} {vs : List Value} {R : Ending → World → Prop} (d : Option Tmp) (h : qiH P N ops f k = some (g, vs, d)) (hc : Calls P g vs.toArray w R)
  (hK : ∀ e w', R e w' → ∃ v, e = .returned v ∧ ∀ a', Has N (pushd d v f) a' → K a' w') : ∀ a, Has N f a → wpOp P ops Q k K a w := by
 unfold qiH at h
 split at h
 ·rename_i x args tys d' ho
  split at h
  ·rename_i g' hx
   split at h
   ·rename_i hg
    simp only [Option.map_eq_some_iff, Prod.mk.injEq] at h
    obtain ⟨vs', hv, rfl, rfl, rfl⟩ := h
    intro a ha
    refine qb0 ho ha fun o' hop hd hdk => ?_
    unfold qdw at hg
    cases hf : P.funcs[g']? with
    | none => rw [hf] at hg; cases hg
    | some fn =>
     rw [hf] at hg
     simp only [Bool.and_eq_true, bne_iff_ne] at hg
     have : (execOp a.eval o').run P w = .ok (.enter g' vs'.toArray) w := by
      have e := qbq ha hv
      have e2 := qJ ha hx
      have hn : fn.body.isNone = false := by cases hb : fn.body <;> simp_all
      simp [execOp, hop, resolve, e, e2, Deferred.ofValue, invoke, callFunc, hf, hg.1]
      intro h; rw [h] at hn; cases hn
     simp only [Oper.wp, this, Oper.upon]
     rw [hd]
     refine Calls.mono hc fun e w' he => ?_
     obtain ⟨v, rfl, h⟩ := hK e w' he
     exact h _ (ha.pushd hdk v)
   ·cases h
  ·cases h
 ·cases h
theorem yQT {g : FuncId} {vs : List Value} {v : Value} {A : World → Prop} (hc : Calls P g vs.toArray w fun e w' => e = .returned v ∧ A w') (hK : ∀ w', A w' → ∀ a', Has N (pushd (dO ops k) v f) a' → K a' w')
  (h : qiH P N ops f k = some (g, vs, dO ops k) := by kernel_rfl) : ∀ a, Has N f a → wpOp P ops Q k K a w := e_callT _ h hc fun _ w' h => ⟨v, h.1, hK w' h.2⟩
def qeu (s : ByteArray) : List Value := s.data.toList.map fun b => Value.int .u8 b.toNat
theorem qh0 (s : ByteArray) : (qeu s).length = s.size := by simp [qeu]
theorem bytV_get (s : ByteArray) {i : Nat} (h : i < s.size) : (qeu s)[i]? = some (.int .u8 (bt s (i : Int))) := by
 unfold qeu bt
 rw [List.getElem?_map, List.getElem?_eq_getElem (by simpa using h)]
 simp only [Option.map_some, Int.toNat_natCast]
 rw [dif_pos h]
 rfl
def byteAt (P : Program) (N : Nat) (ops : Array Oper) (f : Fr) (k : Nat) : Option (ByteArray × Option Tmp) :=
 match qgg N ops f k with
 | some (.convert s t x, d) => match P.underlying s, P.underlying t, ev f x with
  | some .string, some (.slice e), some (.string u) => match P.underlying e with
   | some (.int .u8) => some (u, d)
   | _ => none
  | _, _, _ => none
 | _ => none
theorem qff (u : ByteArray) (d : Option Tmp) (h : byteAt P N ops f k = some (u, d))
  (hK : ∀ w' b cap, b = w.heap.size → w'.heap.size = w.heap.size + 1 → Rd w' (some ⟨b, 0, none⟩) (qeu u) → Ch (fun _ => False) w w' → ∀ a', Has N (pushd d (.slice (some ⟨b, 0, none⟩) u.size cap) f) a' → K a' w') : ∀ a, Has N f a → wpOp P ops Q k K a w := by
 intro a ha
 unfold byteAt at h
 split at h
 ·rename_i s t x d' ho
  split at h
  ·rename_i e v hs ht hx
   split at h
   ·rename_i he
    simp only [Option.some.injEq, Prod.mk.injEq] at h
    obtain ⟨rfl, rfl⟩ := h
    refine qb0 ho ha fun o' hop hd hdk => ?_
    have hc := run_bytes_of_string (P := P) w s t e v hs ht he
    have : (execOp a.eval o').run P w = .ok (.value (.slice (some ⟨w.heap.size, 0, none⟩) v.size (grownCap w v.size 0 e))) (w.drew.alloc (.cells (bytesRow v (grownCap w v.size 0 e)) e ((bytesRow v (grownCap w v.size 0 e)).size, (bytesRow v (grownCap w v.size 0 e)).size + 1))) := by
     simp [execOp, hop, qJ ha hx, hc]
    simp only [Oper.wp, this, Oper.upon]
    rw [hd]
    refine hK _ w.heap.size _ rfl (by show (w.heap.push _).size = _; simp) ?_ ((Ch.drew _ _).trans (Ch.alloc _ _ _) (fun _ _ h => h)) _ (ha.pushd hdk _)
    refine ⟨(fun ea => by cases ea), fun ad ea j y hj => ?_⟩
    obtain rfl := Option.some.inj ea
    have hl := (List.getElem?_eq_some_iff.1 hj).1
    rw [qh0] at hl
    rw [qbA, Nat.zero_add]
    have hb := heap_alloc_new w.drew (.cells (bytesRow v (grownCap w v.size 0 e)) e ((bytesRow v (grownCap w v.size 0 e)).size, (bytesRow v (grownCap w v.size 0 e)).size + 1))
    have hd0 : w.drew.heap = w.heap := rfl
    rw [hd0] at hb
    simp only [World.cell?, hb]
    unfold bytesRow
    rw [Array.getElem?_append_left (by simpa using hl), ← hj]
    unfold qeu
    simp
   ·cases h
  ·cases h
 ·cases h
end
section
variable {P : Program} {N : Nat} {ops : Array Oper} {Q : Exit → Act → World → Prop} {f : Fr} {k : Nat} {K : Act → World → Prop} {w : World}
def zeroB (z : Value) : Bool := match z with
 | .int .u8 n => n == 0
 | _ => false
theorem zeroB_eq {z : Value} (h : zeroB z = true) : z = .int .u8 0 := by
 unfold zeroB at h
 split at h
 ·rw [beq_iff_eq.1 h]
 ·cases h
def appSAt (P : Program) (N : Nat) (ops : Array Oper) (f : Fr) (k : Nat) : Option (TypeId × Value × ByteArray × Option Tmp) :=
 match qgg N ops f k with
 | some (.call ⟨.builtin .append, args, tys⟩, d) => match tys.toList, evs f args.toList with
  | [t, t'], some [u, .string x] => match P.underlying t, P.underlying t' with
   | some (.slice e), some .string => match qe0 P e, (P.info? e).bind (·.zero), (P.info? e).map (·.bytes) with
    | some sz, some z, some bs => if sz = 1 ∧ zeroB z = true ∧ bs = 1 then some (e, u, x, d) else none
    | _, _, _ => none
   | _, _ => none
  | _, _ => none
 | _ => none
structure App (w w' : World) (o o' : Option Nat) : Prop where
 ch : Ch (fun b => o = some b) w w'
 ne : o' = o ∨ ∃ g, o' = some g ∧ w.heap.size ≤ g
theorem App.refl (w : World) (o : Option Nat) : App w w o o := ⟨Ch.refl _ _, .inl rfl⟩
theorem App.trans {w w1 w2 : World} {o o1 o2 : Option Nat} (h : App w w1 o o1) (k : App w1 w2 o1 o2) : App w w2 o o2 := by
 refine ⟨h.ch.trans k.ch fun i hi e => ?_, ?_⟩
 ·rcases h.ne with rfl | ⟨g, rfl, hg⟩
  ·exact e
  ·have := Option.some.inj e; omega
 ·have hs := h.ch.size
  rcases k.ne with rfl | ⟨g, rfl, hg⟩
  ·exact h.ne
  ·exact .inr ⟨g, rfl, by omega⟩
theorem App.step {w w1 w2 : World} {o o1 : Option Nat} {B : Nat → Prop} (h : App w w1 o o1) (k : Ch B w1 w2) (hB : ∀ i, i < w.heap.size → ¬ B i) : App w w2 o o1 := by
 have hs := h.ch.size
 exact ⟨h.ch.trans k fun i hi e => absurd e (hB i hi), h.ne⟩
theorem App.apart {w w' : World} {o o' : Option Nat} (h : App w w' o o') {y : Nat} (hy : y < w.heap.size) (hn : ∀ b, o = some b → ¬ b = y) : ∀ b, o' = some b → ¬ b = y := fun b e => by
 rcases h.ne with rfl | ⟨g, rfl, hg⟩
 ·exact hn b e
 ·have := Option.some.inj e; omega
theorem App.not {w w' : World} {o o' : Option Nat} (_h : App w w' o o') {y : Nat} (hn : ∀ b, o = some b → ¬ b = y) : ¬ o = some y := fun e => hn y e rfl
theorem run_appS {e : TypeId} {o : Option Nat} {n cap : Nat} {xs : List Value} {x : ByteArray} {t u ty : TypeId} {i : TypeInfo} (ht : P.underlying t = some (.slice e)) (hu : P.underlying u = some .string) (hi : P.info? e = some i) (hz : i.zero = some (.int .u8 0)) (hsz : i.size = 1) (hby : i.bytes = 1)
  (ho : Own w e 1 o n cap xs) (hb : n + x.size ≤ maxLen ∧ n + x.size ≤ 140737488355328) :
  ∃ o' cap' w', (Builtin.append_ #[t, u] ty #[.slice (o.map at0) n cap, .string x]).run P w = .ok (.slice (o'.map at0) (n + x.size) cap') w' ∧ Own w' e 1 o' (n + x.size) cap' (xs ++ qeu x) ∧ App w w' o o' := by
 have hsm : n + x.size ≤ 9223372036854775807 := by have h := hb.2; omega
 have hbl : (qeu x).length = x.size := qh0 x
 cases o with
 | none =>
  obtain ⟨rfl, rfl⟩ := ho.2.2.2.1 rfl
  have hx : xs = [] := List.eq_nil_of_length_eq_zero (by simpa using ho.1)
  subst hx
  obtain ⟨v', w', hrun, q1, q2, q3⟩ := Go.Lib.run_append_own_string (P := P) w w.heap.size t u ty e i ht hu hi hz hsz hby _ 0 [] (World.ownsRow_nil w w.heap.size e 1) x hb.1 hb.2 (Nat.le_refl _)
  have hch : Ch (fun b => (none : Option Nat) = some b) w w' := (Ch.grown q2).mono fun i _ hi => by cases hi
  rcases q1.2 with ⟨rfl, h0⟩ | ⟨g, cap', cur, rfl, hmg, hheap, hle, hmax, hsize, htake⟩
  ·refine ⟨none, 0, w', ?_, ⟨q1.1, by omega, Nat.zero_le _, fun _ => ⟨by omega, rfl⟩, fun _ e => by cases e⟩, ⟨hch, .inl rfl⟩⟩
   rw [h0]; exact hrun
  ·refine ⟨some g, cap', w', hrun, ⟨q1.1, hle, hmax, (fun e => by cases e), fun g' e' => ?_⟩, ⟨hch, .inr ⟨g, rfl, hmg⟩⟩⟩
   obtain rfl := Option.some.inj e'
   refine ⟨cur.toList.drop ((0 + x.size) * 1), ?_, ?_⟩
   ·rw [List.length_drop, Array.length_toList, hsize, Nat.sub_mul]
   ·show w'.heap[g]? = _
    have htk : cur.toList.take ((0 + x.size) * 1) = [] ++ qeu x := htake
    rw [hheap, ← htk, List.take_append_drop, Array.toArray_toList]
 | some g =>
  obtain ⟨r, hr, hblk⟩ := ho.2.2.2.2 g rfl
  have hxl : xs.length = n := by simpa using ho.1
  have hnc := ho.2.1
  by_cases hroom : n + x.size ≤ cap
  ·have hrl : r.length = cap - n := by simpa using hr
   have hrun := Go.Lib.run_append_room_string (P := P) w t u ty e i ht hu hi hsz g n cap (xs ++ r).toArray hblk x hroom (by simp; omega)
   refine ⟨some g, cap, _, hrun, ⟨?_, hroom, ho.2.2.1, (fun e => by cases e), fun g' e' => ?_⟩, ⟨⟨rfl, rfl, rfl, by simp, fun k hk hn => setRow_other w g k _ fun e => hn (by rw [e])⟩, .inl rfl⟩⟩
   ·rw [List.length_append, hbl, hxl, Nat.mul_one]
   ·obtain rfl := Option.some.inj e'
    refine ⟨r.drop x.size, by rw [List.length_drop, hrl]; omega, ?_⟩
    have h2 := setRow_heap w g _ (((xs ++ r).toArray.toList.take n ++ Go.Lib.strCells x ++ (xs ++ r).toArray.toList.drop (n + x.size)).toArray) e (0, 0) hblk
    refine h2.trans ?_
    have e1 : (xs ++ r).take n = xs := by rw [← hxl, List.take_left]
    have e2 : (xs ++ r).drop (n + x.size) = r.drop x.size := by rw [← hxl, List.drop_append]; simp
    show some (Obj.cells (((xs ++ r).take n ++ Go.Lib.strCells x ++ (xs ++ r).drop (n + x.size)).toArray) e (0, 0)) = _
    rw [e1, e2]; rfl
  ·have hrun := Go.Lib.run_append_grow_string (P := P) w t u ty e i (.int .u8 0) ht hu hi hz ⟨g, 0, none⟩ n cap xs (by rw [hsz]; exact ho.1) (ho.rd.2 _ rfl) x (by omega) (by omega) (by rw [hby]; exact growslice_fits (by omega) (by omega))
   have hge := grownCap_ge w (n + x.size) cap e
   have hcm : grownCap w (n + x.size) cap e ≤ maxLen := grownCap_le_maxLen w (n + x.size) cap e hb.1
   refine ⟨some w.heap.size, _, _, hrun, ⟨by rw [List.length_append, hbl, hxl, Nat.mul_one], hge, hcm, (fun e => by cases e), fun g' e' => ?_⟩, ⟨(Ch.drew _ _).trans (Ch.alloc _ _ _) (fun _ _ h => h), .inr ⟨_, rfl, Nat.le_refl _⟩⟩⟩
   obtain rfl := Option.some.inj e'
   refine ⟨(Builtin.zeroCells (Value.int .u8 0).cells (grownCap w (n + x.size) cap e - (n + x.size))).toList, ?_, ?_⟩
   ·rw [Array.length_toList, size_zeroCells]; rfl
   ·refine (heap_alloc_new w.drew _).trans ?_
    congr 2
    apply Array.ext'
    simp [Go.Lib.strCells, qeu]
theorem e_appS (e : TypeId) (o : Option Nat) (n cap : Nat) (xs : List Value) (x : ByteArray) (d : Option Tmp) (t : Nat) (ht : n + x.size = t)
  (h : appSAt P N ops f k = some (e, .slice (o.map at0) n cap, x, d))
  (ho : Own w e 1 o n cap xs) (hb : t ≤ maxLen ∧ t ≤ 140737488355328)
  (hK : ∀ w' o' cap', Own w' e 1 o' t cap' (xs ++ qeu x) → App w w' o o' → ∀ a', Has N (pushd d (.slice (o'.map at0) t cap') f) a' → K a' w') : ∀ a, Has N f a → wpOp P ops Q k K a w := by
 subst ht
 intro a ha
 unfold appSAt at h
 split at h
 ·rename_i args tys d' hop0
  split at h
  ·rename_i t t' u' x' ht hv
   split at h
   ·rename_i e' hu hu'
    split at h
    ·rename_i sz z bs hs hz hbs
     split at h
     ·rename_i hc
      obtain ⟨rfl, hz0, rfl⟩ := hc
      obtain rfl := zeroB_eq hz0
      simp only [Option.some.injEq, Prod.mk.injEq] at h
      obtain ⟨rfl, rfl, rfl, rfl⟩ := h
      obtain ⟨i, hi, hsz⟩ := qc8 hs
      rw [hi] at hz hbs
      have htys : tys = #[t, t'] := by apply Array.toList_inj.1; simpa using ht
      refine qb0 hop0 ha fun o' hop hd hdk => ?_
      have he := qbq ha hv
      obtain ⟨o2, cap', w', hrun, q1, q2⟩ := run_appS (P := P) (ty := o'.type) hu hu' hi (by simpa using hz) hsz (by simpa using hbs) ho hb
      have : (execOp a.eval o').run P w = .ok (.value (.slice (o2.map at0) (n + x'.size) cap')) w' := by
       rw [htys] at hop
       simp [execOp, hop, resolve, he, invoke, builtin, hrun]
      simp only [Oper.wp, this, Oper.upon]
      rw [hd]
      exact hK w' o2 cap' q1 q2 _ (ha.pushd hdk _)
     ·cases h
    ·cases h
   ·cases h
  ·cases h
 ·cases h
theorem App.of {w w' : World} {o o' : Option Nat} (hne : o' = o ∨ ∃ g, o' = some g ∧ w.heap.size ≤ g) (hc : Ch (fun b => o = some b) w w') : App w w' o o' := ⟨hc, hne⟩
theorem e_copyS (b o dl dc : Nat) (x : ByteArray) {cs : List Value} {T : TypeId} (d : Option Tmp)
  (h : qfD P N ops f k = some (1, .slice (some ⟨b, o, none⟩) dl dc, .string x, d))
  (hb : Blk w b cs T) (hx : x.size ≤ dl) (hfit : o + x.size ≤ cs.length)
  (hK : ∀ w', Blk w' b (put cs o (qeu x)) T → Ch (fun k => k = b) w w' → ∀ a', Has N (pushd d (.int .i64 (x.size : Nat)) f) a' → K a' w') :
  ∀ a, Has N f a → wpOp P ops Q k K a w := by
 intro a ha
 have one : ∀ u ∈ qeu x, u.oneCell' = true := fun u hu => by
  unfold qeu at hu
  obtain ⟨c, _, rfl⟩ := List.mem_map.1 hu
  rfl
 have hbl := qh0 x
 unfold qfD at h
 split at h
 ·rename_i args tys d' ho
  split at h
  ·rename_i t t' u' v' ht hv
   split at h
   ·rename_i e hu
    split at h
    ·rename_i sz' hs
     simp only [Option.some.injEq, Prod.mk.injEq] at h
     obtain ⟨rfl, rfl, rfl, rfl⟩ := h
     obtain ⟨i, hi, hsz⟩ := qc8 hs
     have htys : tys = #[t, t'] := by apply Array.toList_inj.1; simpa using ht
     refine qb0 ho ha fun o' hop hd hdk => ?_
     have he := qbq ha hv
     have hmin : Nat.min x.size dl = x.size := Nat.min_eq_left hx
     have hload := Go.Lib.run_firstCells_string (P := P) w 1 x
     have hst := run_storeCells_at P b o T (qeu x) 0 cs.toArray w hb (by rw [hbl]; simpa using hfit) one
     have hrun : (Builtin.copy_ #[t, t'] o'.type #[.slice (some ⟨b, o, none⟩) dl dc, .string x]).run P w = .ok (.int .i64 (x.size : Nat)) (w.setRow b (put cs o (qeu x)).toArray) := by
      simp [Builtin.copy_, run_underlying hu, Builtin.lenOf, sizeOf, typeInfo, hi, hsz, hmin, hload, goInt]
      rw [show (storeCells ⟨b, o, none⟩ (Go.Lib.strCells x)).run P w = _ from hst]
      simp [put]
     have : (execOp a.eval o').run P w = .ok (.value (.int .i64 (x.size : Nat))) (w.setRow b (put cs o (qeu x)).toArray) := by
      rw [htys] at hop
      simp [execOp, hop, resolve, he, invoke, builtin, hrun]
     simp only [Oper.wp, this, Oper.upon]
     rw [hd]
     exact hK _ (hb.set _) (Ch.setRow _ _ _) _ (ha.pushd hdk _)
    ·cases h
   ·cases h
  ·cases h
 ·cases h
theorem e_copyS' (b o dl dc : Nat) (x : ByteArray) {cs : List Value} {T : TypeId} (d : Option Tmp) (t : Int) (ht : ((x.size : Nat) : Int) = t)
  (h : qfD P N ops f k = some (1, .slice (some ⟨b, o, none⟩) dl dc, .string x, d))
  (hb : Blk w b cs T) (hx : x.size ≤ dl) (hfit : o + x.size ≤ cs.length)
  (hK : ∀ w', Blk w' b (put cs o (qeu x)) T → Ch (fun k => k = b) w w' → ∀ a', Has N (pushd d (.int .i64 t) f) a' → K a' w') :
  ∀ a, Has N f a → wpOp P ops Q k K a w := by
 subst ht
 exact e_copyS b o dl dc x d h hb hx hfit hK
end
abbrev tU8 : TypeId := 5
abbrev tRdr : TypeId := 102
abbrev u8s (l : List Int) : List Value := l.map (Value.int .u8)
abbrev u64s (l : List Int) : List Value := l.map (Value.int .u64)
def qab (ns : List Int) : List Int := ns.flatMap fun x => qaA x.toNat
theorem qiI {w : World} {b o : Nat} {l : List Int} (h : Rd w (some ⟨b, o, none⟩) (u8s l)) {k : Nat} (hk : k < l.length) : w.cell? ⟨b, o + ((k : Nat) : Int).toNat * 1, none⟩ = some (.int .u8 (l.getD k 0)) := by
 rw [Int.toNat_natCast, Nat.mul_one]
 refine qbG h k _ ?_
 rw [List.getElem?_map, List.getElem?_eq_getElem hk]
 simp [List.getD, List.getElem?_eq_getElem hk]
theorem u64_cell {w : World} {b o : Nat} {l : List Int} (h : Rd w (some ⟨b, o, none⟩) (u64s l)) {k : Nat} (hk : k < l.length) : w.cell? ⟨b, o + ((k : Nat) : Int).toNat * 1, none⟩ = some (.int .u64 (l.getD k 0)) := by
 rw [Int.toNat_natCast, Nat.mul_one]
 refine qbG h k _ ?_
 rw [List.getElem?_map, List.getElem?_eq_getElem hk]
 simp [List.getD, List.getElem?_eq_getElem hk]
theorem drop_at {l : List Int} {k : Nat} (hk : k < l.length) : l.drop k = l.getD k 0 :: l.drop (k + 1) := by
 rw [List.drop_eq_getElem_cons hk]
 simp [List.getD, List.getElem?_eq_getElem hk]
theorem qfg {l : List Int} {k : Nat} (hk : k < l.length) : l.take (k + 1) = l.take k ++ [l.getD k 0] := by
 rw [List.take_succ_eq_append_getElem hk]
 simp [List.getD, List.getElem?_eq_getElem hk]
theorem qdQ {l : List Int} {k : Nat} (hk : k < l.length) : l.getD k 0 ∈ l := by
 simp [List.getD, List.getElem?_eq_getElem hk]
theorem qks (l : List Int) (x : Int) : qab (l ++ [x]) = qab l ++ qaA x.toNat := by simp [qab]
structure RdrIn (w : World) (rv D : Nat) (a : Option Addr) (n cap : Nat) (ys : List Int) (bad : Bool) : Prop where
 blk : Blk w rv [.slice a n cap, .bool bad] tRdr
 rd : Rd w a (u8s ys)
 len : ys.length = n
 le : n ≤ cap
 z : (n = 0 ∧ cap = 0) ∨ ∃ o, a = some ⟨D, o, none⟩
 byt : qd7 ys
 ne : ¬ rv = D
 big : n ≤ 1000000
 dl : D < w.heap.size
def rsOf (bad : Bool) (ys : List Int) : RS := if bad = true then none else some ys
def RdrAt (w : World) (rv D : Nat) (s : RS) : Prop := ∃ a n cap ys bad, RdrIn w rv D a n cap ys bad ∧ s = rsOf bad ys
section
variable {w w' : World} {rv D : Nat} {a : Option Addr} {n cap : Nat} {ys : List Int} {bad : Bool} {s : RS} {B : Nat → Prop}
theorem RdrIn.rdch (h : RdrIn w rv D a n cap ys bad) (hc : Ch B w w') (h2 : ¬ B D) : Rd w' a (u8s ys) := by
 rcases h.z with ⟨h0, _⟩ | ⟨o, rfl⟩
 ·obtain rfl := List.eq_nil_of_length_eq_zero (h.len.trans h0)
  exact Rd.nil _ _
 ·exact h.rd.ch hc fun ad e => by cases e; exact h2
theorem RdrIn.some (h : RdrIn w rv D a n cap ys bad) (hn : n ≠ 0) : ∃ o, a = Option.some ⟨D, o, none⟩ := by
 rcases h.z with ⟨h, _⟩ | h
 ·exact absurd h hn
 ·exact h
theorem RdrIn.ch (h : RdrIn w rv D a n cap ys bad) (hc : Ch B w w') (h1 : ¬ B rv) (h2 : ¬ B D) : RdrIn w' rv D a n cap ys bad :=
 {h with
  blk := h.blk.ch hc h1
  rd := h.rdch hc h2
  dl := Nat.lt_of_lt_of_le h.dl hc.size }
def RdrX (w : World) (rv D : Nat) (s : RS) : Prop := ∃ a n cap ys bad, RdrIn w rv D a n cap ys bad ∧ s = rsOf bad ys ∧ (bad = true ∨ ∃ o, a = Option.some ⟨D, o, none⟩)
theorem RdrX.at (h : RdrX w rv D s) : RdrAt w rv D s := by
 obtain ⟨a, n, cap, ys, bad, h, e, _⟩ := h
 exact ⟨a, n, cap, ys, bad, h, e⟩
theorem RdrAt.ch (h : RdrAt w rv D s) (hc : Ch B w w') (h1 : ¬ B rv) (h2 : ¬ B D) : RdrAt w' rv D s := by
 obtain ⟨a, n, cap, ys, bad, h, e⟩ := h
 exact ⟨a, n, cap, ys, bad, h.ch hc h1 h2, e⟩
theorem RdrAt.lt (h : RdrAt w rv D s) : rv < w.heap.size := by
 obtain ⟨a, n, cap, ys, bad, h, e⟩ := h
 exact h.blk.lt
theorem RdrAt.dlt (h : RdrAt w rv D s) : D < w.heap.size := by
 obtain ⟨a, n, cap, ys, bad, h, e⟩ := h
 exact h.dl
theorem RdrAt.rs (h : RdrAt w rv D s) : rsB s := by
 obtain ⟨a, n, cap, ys, bad, h, rfl⟩ := h
 intro zs e
 unfold rsOf at e
 split at e
 ·cases e
 ·obtain rfl := Option.some.inj e
  exact h.byt
theorem RdrIn.spoil (h : RdrIn w rv D a n cap ys bad) (hc : Ch (fun j => j = rv) w w') (hb : Blk w' rv [.slice a n cap, .bool true] tRdr) : RdrX w' rv D none :=
 ⟨a, n, cap, ys, true, { h with
  blk := hb
  rd := h.rdch hc fun e => h.ne e.symm
  dl := Nat.lt_of_lt_of_le h.dl hc.size }, rfl, .inl rfl⟩
theorem RdrIn.drop {o : Nat} (h : RdrIn w rv D (Option.some ⟨D, o, none⟩) n cap ys false) (k : Nat) (hk : k ≤ n) (hc : Ch (fun j => j = rv) w w') (hb : Blk w' rv [.slice (Option.some ⟨D, if cap = k then o else o + k * 1, none⟩) (n - k) (cap - k), .bool false] tRdr) : RdrX w' rv D (Option.some (ys.drop k)) := by
 have hr := h.rdch hc fun e => h.ne e.symm
 refine ⟨_, n - k, cap - k, ys.drop k, false, ⟨hb, ⟨(fun e => by cases e), fun ad e j u hj => ?_⟩, by rw [List.length_drop, h.len], by have := h.le; omega, .inr ⟨_, rfl⟩, qf9 h.byt k, h.ne, by have := h.big; omega, Nat.lt_of_lt_of_le h.dl hc.size⟩, rfl, .inr ⟨_, rfl⟩⟩
 cases e
 have hl := (List.getElem?_eq_some_iff.1 hj).1
 rw [List.length_map, List.length_drop, h.len] at hl
 have hle := h.le
 rw [if_neg (show ¬ cap = k by omega)]
 have := hr.2 ⟨D, o, none⟩ rfl (k + j) u (by
  rw [u8s, List.getElem?_map, List.getElem?_drop, ← List.getElem?_map] at hj
  exact hj)
 rw [qbA] at this ⊢
 rw [show o + k * 1 + j = o + (k + j) by omega]
 exact this
end
theorem numR_bad {lim : Int} {ys : List Int} : qP lim (rsOf true ys) = (0, none) := rfl
theorem qiJ {lim : Int} {ys : List Int} {bad : Bool} (h : (qam ys).2 = 0 ∨ 9223372036854775807 < (qam ys).1 ∨ (0 < lim ∧ lim ≤ ((qam ys).1 : Int))) : qP lim (rsOf bad ys) = (0, none) := by
 cases bad with
 | true => rfl
 | false => show (if _ then _ else _) = _; rw [if_pos h]
theorem qjq {lim : Int} {ys : List Int} (h0 : ¬ (qam ys).2 = 0) (h1 : ¬ 9223372036854775807 < (qam ys).1) (h2 : ¬ (0 < lim ∧ lim ≤ ((qam ys).1 : Int))) : qP lim (rsOf false ys) = (((qam ys).1 : Int), some (ys.drop (qam ys).2)) := by
 show (if _ then _ else _) = _
 rw [if_neg (by rintro (h | h | h); exact h0 h; exact h1 h; exact h2 h)]
set_option maxHeartbeats 4000000 in
theorem take_any (a : Option Addr) (n cap : Nat) (us : List Int) (w : World) (hr : Rd w a (u8s us)) (hl : us.length = n) (hz : n = 0 ∨ ∃ b o, a = some ⟨b, o, none⟩) (hb : qd7 us) (hn : n ≤ 1000000) : Calls Tryz.prog 64 [.slice a n cap].toArray w fun e w' => e = .returned (.tuple #[.int .u64 ((qam us).1 : Int), iX ((qam us).2 : Int)]) ∧ Ch (fun _ => False) w w' := by
 refine yA Tryz.func64 rfl <| yx 2 <| yx 1 <| ys <| yx 3 <| q8 <| qT [4, 7, 8, 9] (f' := [(4, .int .u64 0), (7, .slice a n cap), (8, iX ((n : Nat) : Int)), (9, iX 0)]) <| qz (σ := Nat × Int) (fun ⟨k, x⟩ => [(4, .int .u64 x), (7, .slice a n cap), (8, iX ((n : Nat) : Int)), (9, iX ((k : Nat) : Int))]) (fun ⟨k, x⟩ u => k ≤ n ∧ qcD 0 0 us = qcD k x (us.drop k) ∧ Ch (fun _ => False) w u) (fun ⟨k, x⟩ => n - k) (0, 0) rfl ?_ ?_
 ·exact ⟨Nat.zero_le _, rfl, Ch.refl _ _⟩
 intro p I D J C; obtain ⟨k, x⟩ := p; obtain ⟨hk, hG, g⟩ := D; have f := zu (zm w) g iZ; have E := Rd.ch hr g iZ; refine yx 1 <| ys <| yc (rL ((k : Nat) : Int) ((n : Nat) : Int)) (fun F => ?_) fun F => ?_
 ·obtain ⟨pb, po, rfl⟩ := hz.resolve_left (by omega); have G := drop_at (l := us) (k := k) (by omega); have K := hb _ (qdQ (l := us) (k := k) (by omega)); rw [G] at hG; refine yk <| ys <| q8 <| ysr <| yp 5 [] (.i ((k : Nat) : Int) (n) (.l (o := (po + (((k : Nat) : Int)).toNat * 1)) (qiI E (k := k) (by omega)) .z)) <| ye <| ys <| ysr <| yq 3 <| yw [16] (rE ((k : Nat) : Int) 9) (fun h => ?_) fun h => ?_
  ·have L := h; refine yq 7 <| yw [20] (rL 1 (us.getD k 0)) (fun j => ?_) fun j => ?_
   ·have M := j; refine yz 10 <| yct <| yx 2 <| qe (rS (rB (rS (qE (rB (rS (yR2 [.int .u64 0, iX 0] .z ?_))))))); have hN := qc3 hb; rw [hG] at hN; rw [qcD] at hN
    first
     | (exfalso; omega)
     | (rw [if_pos (by omega)] at hN; obtain ⟨c, d⟩ := Prod.mk.inj hN; exact ⟨by rw [← c, ← d], Up.ch f⟩)
     | (rw [if_neg (by omega), if_pos (by omega), if_pos (by omega)] at hN; obtain ⟨c, d⟩ := Prod.mk.inj hN; exact ⟨by rw [← c, ← d], Up.ch f⟩)
     | (rw [if_neg (by omega), if_pos (by omega), if_neg (by omega)] at hN; obtain ⟨c, d⟩ := Prod.mk.inj hN; exact ⟨by rw [← c, ← d], Up.ch f⟩)
   have N := j; refine yz 10 <| yc (rL 9 ((k : Nat) : Int)) (fun m => ?_) fun m => ?_
   ·have O := m; refine yx 2 <| qe (rS (rB (rS (qE (rB (rS (yR2 [.int .u64 0, iX 0] .z ?_))))))); have hN := qc3 hb; rw [hG] at hN; rw [qcD] at hN
    first
     | (exfalso; omega)
     | (rw [if_pos (by omega)] at hN; obtain ⟨c, d⟩ := Prod.mk.inj hN; exact ⟨by rw [← c, ← d], Up.ch f⟩)
     | (rw [if_neg (by omega), if_pos (by omega), if_pos (by omega)] at hN; obtain ⟨c, d⟩ := Prod.mk.inj hN; exact ⟨by rw [← c, ← d], Up.ch f⟩)
     | (rw [if_neg (by omega), if_pos (by omega), if_neg (by omega)] at hN; obtain ⟨c, d⟩ := Prod.mk.inj hN; exact ⟨by rw [← c, ← d], Up.ch f⟩)
   have P := m; refine yk <| ysr <| yp 9 [] (.q6 (7 * ((k : Nat) : Int)) (.p (q := 0 ≤ ((7 * ((k : Nat) : Int)) : Int)) (by omega) .z)) <| ye <| yx 2 <| yc (rL (us.getD k 0) 128) (fun r => ?_) fun r => ?_
   ·have Q := r; refine ys <| ysr <| yq 3 <| yw [36] (rE (us.getD k 0) 0) (fun s => ?_) fun s => ?_
    ·have R := s; refine yz 6 <| yc (rL 0 ((k : Nat) : Int)) (fun t => ?_) fun t => ?_
     ·have S := t; refine yx 2 <| qe (rS (rB (rS (qE (rB (rS (yR2 [.int .u64 0, iX 0] .z ?_))))))); have hN := qc3 hb; rw [hG] at hN; rw [qcD] at hN
      first
       | (exfalso; omega)
       | (rw [if_pos (by omega)] at hN; obtain ⟨c, d⟩ := Prod.mk.inj hN; exact ⟨by rw [← c, ← d], Up.ch f⟩)
       | (rw [if_neg (by omega), if_pos (by omega), if_pos (by omega)] at hN; obtain ⟨c, d⟩ := Prod.mk.inj hN; exact ⟨by rw [← c, ← d], Up.ch f⟩)
       | (rw [if_neg (by omega), if_pos (by omega), if_neg (by omega)] at hN; obtain ⟨c, d⟩ := Prod.mk.inj hN; exact ⟨by rw [← c, ← d], Up.ch f⟩)
     have T := t; refine yk <| ysr <| yp 5 [] (.q6 (((k : Nat) : Int) + 1) .z) <| ye <| qe (rB (rS (qE (rB (rS (yR2 [.int .u64 (ql .or .u64 x (IntKind.wrap .u64 ((IntKind.wrap .u64 (ql .and .u8 (us.getD k 0) 127)) * 2 ^ min ((7 * ((k : Nat) : Int)) : Int).toNat (IntKind.bits .u64)))), iX (((k : Nat) : Int) + 1)] .z ?_)))))); have hN := qc3 hb; rw [hG] at hN; rw [qcD] at hN
     first
      | (exfalso; omega)
      | (rw [if_pos (by omega)] at hN; obtain ⟨c, d⟩ := Prod.mk.inj hN; exact ⟨by rw [← c, ← d], Up.ch f⟩)
      | (rw [if_neg (by omega), if_pos (by omega), if_pos (by omega)] at hN; obtain ⟨c, d⟩ := Prod.mk.inj hN; exact ⟨by rw [← c, ← d], Up.ch f⟩)
      | (rw [if_neg (by omega), if_pos (by omega), if_neg (by omega)] at hN; obtain ⟨c, d⟩ := Prod.mk.inj hN; exact ⟨by rw [← c, ← d], Up.ch f⟩)
    have U := s; refine yz 6 <| ycf <| yk <| ysr <| yp 5 [] (.q6 (((k : Nat) : Int) + 1) .z) <| ye <| qe (rB (rS (qE (rB (rS (yR2 [.int .u64 (ql .or .u64 x (IntKind.wrap .u64 ((IntKind.wrap .u64 (ql .and .u8 (us.getD k 0) 127)) * 2 ^ min ((7 * ((k : Nat) : Int)) : Int).toNat (IntKind.bits .u64)))), iX (((k : Nat) : Int) + 1)] .z ?_)))))); have hN := qc3 hb; rw [hG] at hN; rw [qcD] at hN
    first
     | (exfalso; omega)
     | (rw [if_pos (by omega)] at hN; obtain ⟨c, d⟩ := Prod.mk.inj hN; exact ⟨by rw [← c, ← d], Up.ch f⟩)
     | (rw [if_neg (by omega), if_pos (by omega), if_pos (by omega)] at hN; obtain ⟨c, d⟩ := Prod.mk.inj hN; exact ⟨by rw [← c, ← d], Up.ch f⟩)
     | (rw [if_neg (by omega), if_pos (by omega), if_neg (by omega)] at hN; obtain ⟨c, d⟩ := Prod.mk.inj hN; exact ⟨by rw [← c, ← d], Up.ch f⟩)
   have V := r; refine qr (nB (nS ?_)); refine q7 <| yp 2 [] (.q6 (((k : Nat) : Int) + 1) .z) <| yE (fun a ha => C (k + 1, orT x (us.getD k 0) k) _ ⟨by omega, by rw [hG, qcD, if_neg (by omega), if_neg (by omega)], g⟩ (by show n - (k + 1) < n - k; omega) a (ha.kp [4, 7, 8, 9]))
  have W := h; refine yz 10 <| yc (rL 9 ((k : Nat) : Int)) (fun v => ?_) fun v => ?_
  ·have X := v; refine yx 2 <| qe (rS (rB (rS (qE (rB (rS (yR2 [.int .u64 0, iX 0] .z ?_))))))); have hN := qc3 hb; rw [hG] at hN; rw [qcD] at hN
   first
    | (exfalso; omega)
    | (rw [if_pos (by omega)] at hN; obtain ⟨c, d⟩ := Prod.mk.inj hN; exact ⟨by rw [← c, ← d], Up.ch f⟩)
    | (rw [if_neg (by omega), if_pos (by omega), if_pos (by omega)] at hN; obtain ⟨c, d⟩ := Prod.mk.inj hN; exact ⟨by rw [← c, ← d], Up.ch f⟩)
    | (rw [if_neg (by omega), if_pos (by omega), if_neg (by omega)] at hN; obtain ⟨c, d⟩ := Prod.mk.inj hN; exact ⟨by rw [← c, ← d], Up.ch f⟩)
  have Y := v; refine yk <| ysr <| yp 9 [] (.q6 (7 * ((k : Nat) : Int)) (.p (q := 0 ≤ ((7 * ((k : Nat) : Int)) : Int)) (by omega) .z)) <| ye <| yx 2 <| yc (rL (us.getD k 0) 128) (fun y => ?_) fun y => ?_
  ·have Z := y; refine ys <| ysr <| yq 3 <| yw [36] (rE (us.getD k 0) 0) (fun A => ?_) fun A => ?_
   ·have a0 := A; refine yz 6 <| yc (rL 0 ((k : Nat) : Int)) (fun B => ?_) fun B => ?_
    ·have a1 := B; refine yx 2 <| qe (rS (rB (rS (qE (rB (rS (yR2 [.int .u64 0, iX 0] .z ?_))))))); have hN := qc3 hb; rw [hG] at hN; rw [qcD] at hN
     first
      | (exfalso; omega)
      | (rw [if_pos (by omega)] at hN; obtain ⟨c, d⟩ := Prod.mk.inj hN; exact ⟨by rw [← c, ← d], Up.ch f⟩)
      | (rw [if_neg (by omega), if_pos (by omega), if_pos (by omega)] at hN; obtain ⟨c, d⟩ := Prod.mk.inj hN; exact ⟨by rw [← c, ← d], Up.ch f⟩)
      | (rw [if_neg (by omega), if_pos (by omega), if_neg (by omega)] at hN; obtain ⟨c, d⟩ := Prod.mk.inj hN; exact ⟨by rw [← c, ← d], Up.ch f⟩)
    have a2 := B; refine yk <| ysr <| yp 5 [] (.q6 (((k : Nat) : Int) + 1) .z) <| ye <| qe (rB (rS (qE (rB (rS (yR2 [.int .u64 (ql .or .u64 x (IntKind.wrap .u64 ((IntKind.wrap .u64 (ql .and .u8 (us.getD k 0) 127)) * 2 ^ min ((7 * ((k : Nat) : Int)) : Int).toNat (IntKind.bits .u64)))), iX (((k : Nat) : Int) + 1)] .z ?_)))))); have hN := qc3 hb; rw [hG] at hN; rw [qcD] at hN
    first
     | (exfalso; omega)
     | (rw [if_pos (by omega)] at hN; obtain ⟨c, d⟩ := Prod.mk.inj hN; exact ⟨by rw [← c, ← d], Up.ch f⟩)
     | (rw [if_neg (by omega), if_pos (by omega), if_pos (by omega)] at hN; obtain ⟨c, d⟩ := Prod.mk.inj hN; exact ⟨by rw [← c, ← d], Up.ch f⟩)
     | (rw [if_neg (by omega), if_pos (by omega), if_neg (by omega)] at hN; obtain ⟨c, d⟩ := Prod.mk.inj hN; exact ⟨by rw [← c, ← d], Up.ch f⟩)
   have a3 := A; refine yz 6 <| ycf <| yk <| ysr <| yp 5 [] (.q6 (((k : Nat) : Int) + 1) .z) <| ye <| qe (rB (rS (qE (rB (rS (yR2 [.int .u64 (ql .or .u64 x (IntKind.wrap .u64 ((IntKind.wrap .u64 (ql .and .u8 (us.getD k 0) 127)) * 2 ^ min ((7 * ((k : Nat) : Int)) : Int).toNat (IntKind.bits .u64)))), iX (((k : Nat) : Int) + 1)] .z ?_)))))); have hN := qc3 hb; rw [hG] at hN; rw [qcD] at hN
   first
    | (exfalso; omega)
    | (rw [if_pos (by omega)] at hN; obtain ⟨c, d⟩ := Prod.mk.inj hN; exact ⟨by rw [← c, ← d], Up.ch f⟩)
    | (rw [if_neg (by omega), if_pos (by omega), if_pos (by omega)] at hN; obtain ⟨c, d⟩ := Prod.mk.inj hN; exact ⟨by rw [← c, ← d], Up.ch f⟩)
    | (rw [if_neg (by omega), if_pos (by omega), if_neg (by omega)] at hN; obtain ⟨c, d⟩ := Prod.mk.inj hN; exact ⟨by rw [← c, ← d], Up.ch f⟩)
  have a4 := y; refine qr (nB (nS ?_)); refine q7 <| yp 2 [] (.q6 (((k : Nat) : Int) + 1) .z) <| yE (fun a ha => C (k + 1, orT x (us.getD k 0) k) _ ⟨by omega, by rw [hG, qcD, if_neg (by omega), if_neg (by omega)], g⟩ (by show n - (k + 1) < n - k; omega) a (ha.kp [4, 7, 8, 9]))
 have H : k = n := by omega
 refine qo (eS (qg (qd (nS ?_)))); refine yx 2 <| qe (yR2 [.int .u64 0, iX 0] .z ?_); have hN := qc3 hb; rw [hG] at hN; rw [H, List.drop_eq_nil_of_le (by omega), qcD] at hN; obtain ⟨c, d⟩ := Prod.mk.inj hN; exact ⟨by rw [← c, ← d], Up.ch f⟩
set_option maxHeartbeats 4000000 in
theorem qau (o : Option Nat) (n cap : Nat) (xs : List Int) (lb k : Nat) (ns : List Int) (w : World) (hO : Own w tU8 1 o n cap (u8s xs)) (hr : Rd w (some ⟨lb, 0, none⟩) (u64s ns)) (hk : ns.length = k) (hv : ∀ x ∈ ns, 0 ≤ x ∧ x ≤ 18446744073709551615) (hlb : lb < w.heap.size) (hne : ∀ b, o = some b → ¬ b = lb) (hz : n + 10 * k ≤ 1000000000) : Calls Tryz.prog 20 [.slice (o.map at0) n cap, .slice (some ⟨lb, 0, none⟩) k k].toArray w fun e w' =>
 ∃ o' n' cap', e = .returned (.slice (o'.map at0) n' cap') ∧ Own w' tU8 1 o' n' cap' (u8s (xs ++ qab ns)) ∧ n' ≤ n + 10 * k ∧ App w w' o o' := by
 refine yA Tryz.func20 rfl <| yx 1 <| ys <| yx 3 <| q8 <| qT [0, 7, 8, 9] (f' := [(0, .slice (o.map at0) n cap), (7, .slice (some ⟨lb, 0, none⟩) k k), (8, iX ((k : Nat) : Int)), (9, iX 0)]) <| qz (σ := Nat × Option Nat × Nat × Nat) (fun ⟨j, g, d, m⟩ => [(0, .slice (g.map at0) d m), (7, .slice (some ⟨lb, 0, none⟩) k k), (8, iX ((k : Nat) : Int)), (9, iX ((j : Nat) : Int))]) (fun ⟨j, g, d, m⟩ u => j ≤ k ∧ Own u tU8 1 g d m (u8s (xs ++ qab (ns.take j))) ∧ App w u o g ∧ d ≤ n + 10 * j) (fun ⟨j, g, d, m⟩ => k - j) (0, o, n, cap) rfl ?_ ?_
 ·exact ⟨Nat.zero_le _, by simpa [qab] using hO, App.refl _ _, Nat.le_refl _⟩
 intro p ad L ae M; obtain ⟨j, g, d, m⟩ := p; obtain ⟨hj, A, v, af⟩ := L; have N := Ch.rd v.ch hr (fun h => hne _ h rfl); have ag := Nat.lt_of_lt_of_le hlb v.ch.size; refine yx 1 <| ys <| yc (rL ((j : Nat) : Int) ((k : Nat) : Int)) (fun B => ?_) fun B => ?_
 ·have ah := B; have ai := hv _ (qdQ (l := ns) (k := j) (by omega)); refine yk <| ys <| q8 <| ysr <| yp 3 [] (.i ((j : Nat) : Int) (k) (.l (o := (0 + (((j : Nat) : Int)).toNat * 1)) (u64_cell N (k := j) (by omega)) .z)) <| ye <| ys <| q8 <| qT [0, 6, 7, 8, 9] (f' := [(0, .slice (g.map at0) d m), (6, .int .u64 (ns.getD j 0)), (7, .slice (some ⟨lb, 0, none⟩) k k), (8, iX ((k : Nat) : Int)), (9, iX ((j : Nat) : Int))]) <| qz (σ := Int × Nat × List Int × Option Nat × Nat × Nat) (fun ⟨x, f, zs, r, c, s⟩ => [(0, .slice (r.map at0) c s), (6, .int .u64 x), (7, .slice (some ⟨lb, 0, none⟩) k k), (8, iX ((k : Nat) : Int)), (9, iX ((j : Nat) : Int))]) (fun ⟨x, f, zs, r, c, s⟩ u => 0 ≤ x ∧ x.toNat < 128 ^ (f + 1) ∧ zs ++ qg1 f x.toNat = (xs ++ qab (ns.take j)) ++ qaA (ns.getD j 0).toNat ∧ Own u tU8 1 r c s (u8s zs) ∧ App w u o r ∧ c + f + 1 ≤ d + 10) (fun ⟨x, f, zs, r, c, s⟩ => x.toNat) (ns.getD j 0, 9, xs ++ qab (ns.take j), g, d, m) rfl ?_ ?_
  ·exact ⟨by omega, by have O : (128 : Nat) ^ (9 + 1) = 1180591620717411303424 := (by decide); rw [O]; omega, rfl, A, v, by omega⟩
  intro q aj P ak Q; obtain ⟨x, f, zs, r, c, s⟩ := q; obtain ⟨al, R, E, y, F, am⟩ := P; refine ys <| yx 2 <| yc (rM 128 x) (fun C => ?_) fun C => ?_
  ·have an := C; refine yk <| ys <| q8 <| q7 <| yq 4 <| yo (yB [uX (ql .or .u8 (IntKind.wrap .u8 x) 128)] 5 1 fun ao G ap aq S H => ?_); have ar := zv (b := G) y; have T := y.ch H iZ; have U := F.step H iZ; refine yo (qai 5 1 1 r c s (u8s zs) (some ⟨G, 0, none⟩) 1 1 [uX (ql .or .u8 (IntKind.wrap .u8 x) 128)] (some 22) (c + 1) rfl (u8s (zs ++ [(ql .or .u8 (IntKind.wrap .u8 x) 128)])) (by rw [u8s, u8s, List.map_append]; rfl) (by kernel_rfl) T (Rd.all S) rfl rfl (fun h => by cases h) (by constructor <;> first | omega | (simp only [maxLen]; omega)) ?_); intro au V W X Y av Z; have a0 := U.trans (App.of Y Z); refine yq 7 <| yE (nB (nS ?_)); refine q7 <| yp 3 [] (.p (q := 0 ≤ (7 : Int)) (by omega) .z) ?_; obtain ⟨f, rfl⟩ : ∃ f', f = f' + 1 := by
    cases f with
    | zero => exfalso; have : x.toNat < 128 := R; omega
    | succ f => exact ⟨f, rfl⟩
   have D : x = ((x.toNat : Nat) : Int) := by omega
   have t := shr7_eq x.toNat; have I := low7_eq x.toNat; rw [← D] at t I; have aw : 128 ^ (f + 1 + 1) = 128 ^ (f + 1) * 128 := rfl; have hq : zs ++ [low7 x] ++ qg1 f (shr7 x).toNat = (xs ++ qab (ns.take j)) ++ qaA (ns.getD j 0).toNat := by rw [← E, qdN (by omega), t, I, Int.toNat_natCast, List.append_assoc]; rfl
   refine yE (fun a ha => Q (shr7 x, f, zs ++ [low7 x], V, (c + 1), W) _ ⟨by rw [t]; omega, by rw [t]; omega, hq, X, a0, by omega⟩ (by show (shr7 x).toNat < x.toNat; rw [t]; omega) a (ha.kp [0, 6, 7, 8, 9]))
  have ax := C; have D : x = ((x.toNat : Nat) : Int) := by omega
  have a1 : IntKind.wrap .u8 x = ((x.toNat : Nat) : Int) := by rw [D, wrap8]; congr 1; omega
  have a2 : zs ++ [IntKind.wrap .u8 x] = (xs ++ qab (ns.take j)) ++ qaA (ns.getD j 0).toNat := by rw [← E, qco (by omega), a1]
  refine qo (eS (qg (qd (nS ?_)))); refine q7 <| yq 3 <| yo (yB [uX (IntKind.wrap .u8 x)] 5 1 fun ay J az aA a3 K => ?_); have aB := zv (b := J) y; have a4 := y.ch K iZ; have a5 := F.step K iZ; refine yo (qai 5 1 1 r c s (u8s zs) (some ⟨J, 0, none⟩) 1 1 [uX (IntKind.wrap .u8 x)] (some 27) (c + 1) rfl (u8s (zs ++ [(IntKind.wrap .u8 x)])) (by rw [u8s, u8s, List.map_append]; rfl) (by kernel_rfl) a4 (Rd.all a3) rfl rfl (fun h => by cases h) (by constructor <;> first | omega | (simp only [maxLen]; omega)) ?_); intro aC a6 a7 a8 a9 aD aa; have ab := a5.trans (App.of a9 aa); refine yq 6 <| yE (nB (nS ?_)); refine q7 <| yp 2 [] (.q6 (((j : Nat) : Int) + 1) .z) <| yE (fun a ha => M (j + 1, a6, (c + 1), a7) _ ⟨by omega, by rw [qfg (by omega), qks, ← List.append_assoc, ← a2]; exact a8, ab, by omega⟩ (by show k - (j + 1) < k - j; omega) a (ha.kp [0, 7, 8, 9]))
 have aE := B; have ac : j = k := by omega
 refine qo (eS (qg (qd (nS ?_)))); refine yx 2 <| qe (yR1 (.slice (g.map at0) d m) ?_); exact ⟨_, _, _, rfl, by rw [ac, ← hk, List.take_length] at A; exact A, by omega, v⟩
theorem rdr_len0 {us : List Int} {n : Nat} (h : us.length = n) (hk : ¬ (((qam us).2 : Nat) : Int) = 0) : n ≠ 0 := by
 rintro rfl; obtain rfl := List.eq_nil_of_length_eq_zero h; exact hk rfl
set_option maxHeartbeats 4000000 in
theorem qjr {rv D : Nat} {s0 s1 : RS} {lim x : Int} {w : World} (hA : RdrAt w rv D s0) (hN : qP lim s0 = (x, s1)) (hlim : lim ≤ 9223372036854775807) : Calls Tryz.prog 51 [pX rv, iX lim].toArray w fun e w' => e = .returned (iX x) ∧ RdrX w' rv D s1 ∧ Ch (· = rv) w w' := by
 obtain ⟨a, n, b, us, g, hI, rfl⟩ := hA; refine yA Tryz.func51 rfl <| yx 1 <| ysr <| yp 4 [] (.l (hI.blk.c 0) .z) <| yo (yQ (take_any a n b us _ hI.rd hI.len (hI.z.imp (fun h => h.1) (fun h => ⟨_, h⟩)) hI.byt hI.big) fun G u => ?_); have f : Ch (· = rv) w G := zt (Ch.refl (· = rv) w) u eZ; have d := hI.blk.ch u id; refine yz 10 <| ys <| ysr <| yp 5 [] (.l (d.c 1) .z) <| yw [19] (rY g) (fun k => ?_) fun k => ?_
 ·have H := k; refine yz 22 <| yct <| ysr <| yq 3 <| yo (yT [.slice a n b, .bool true] d fun I J K => ?_); have v : Ch (· = rv) w I := zt f K iZ; refine ye <| yx 1 <| qe (rS (yR1 (iX 0) ?_)); subst H; rw [numR_bad] at hN; obtain ⟨rfl, rfl⟩ := Prod.mk.inj hN; exact ⟨rfl, hI.spoil v J, v⟩
 have y := k; refine yq 9 <| yw [23] (rE (((qam us).2 : Nat) : Int) 0) (fun m => ?_) fun m => ?_
 ·have a1 := m; refine yz 22 <| yct <| ysr <| yq 3 <| yo (yT [.slice a n b, .bool true] d fun L M N => ?_); have A : Ch (· = rv) w L := zt f N iZ; refine ye <| yx 1 <| qe (rS (yR1 (iX 0) ?_)); rw [qiJ (.inl (by omega))] at hN; obtain ⟨rfl, rfl⟩ := Prod.mk.inj hN; exact ⟨rfl, hI.spoil A M, A⟩
 have O := m; have o := (takeN_le hI.byt).1; rw [hI.len] at o; obtain ⟨ao, rfl⟩ := hI.some (rdr_len0 hI.len O); refine yq 13 <| yw [27] (rL 9223372036854775807 (((qam us).1 : Nat) : Int)) (fun r => ?_) fun r => ?_
 ·have a2 := r; refine yz 22 <| yct <| ysr <| yq 3 <| yo (yT [.slice (some ⟨D, ao, none⟩) n b, .bool true] d fun P Q R => ?_); have B : Ch (· = rv) w P := zt f R iZ; refine ye <| yx 1 <| qe (rS (yR1 (iX 0) ?_)); rw [qiJ (.inr (.inl (by omega)))] at hN; obtain ⟨rfl, rfl⟩ := Prod.mk.inj hN; exact ⟨rfl, hI.spoil B Q, B⟩
 have a3 := r; refine yq 16 <| yw [30] (rL 0 lim) (fun s => ?_) fun s => ?_
 ·have a4 := s; refine yp 22 [18] (.p (q := InR .u64 lim) (qaO (by omega) (by omega)) .z) <| ye <| yc (rM lim (((qam us).1 : Nat) : Int)) (fun t => ?_) fun t => ?_
  ·have a5 := t; refine ysr <| yq 3 <| yo (yT [.slice (some ⟨D, ao, none⟩) n b, .bool true] d fun S T U => ?_); have C : Ch (· = rv) w S := zt f U iZ; refine ye <| yx 1 <| qe (rS (yR1 (iX 0) ?_)); rw [qiJ (.inr (.inr ⟨by omega, by omega⟩))] at hN; obtain ⟨rfl, rfl⟩ := Prod.mk.inj hN; exact ⟨rfl, hI.spoil C T, C⟩
  have a6 := t; refine yk <| ysr <| yp 9 [] (.l (d.c 0) (.j (((qam us).2 : Nat) : Int) (n) .z)) <| yo (yT [.slice (some ⟨D, (if b = ((((qam us).2 : Nat) : Int) : Int).toNat then ao else ao + ((((qam us).2 : Nat) : Int) : Int).toNat * 1), none⟩) (n - ((((qam us).2 : Nat) : Int) : Int).toNat) (b - ((((qam us).2 : Nat) : Int) : Int).toNat), .bool g] d fun V W X => ?_); have E : Ch (· = rv) w V := zt f X iZ; refine ye <| ysr <| yp 3 [] (.q6 (((qam us).1 : Nat) : Int) .z) <| ye <| qe (yR1 (iX (((qam us).1 : Nat) : Int)) ?_); obtain rfl : g = false := y; rw [qjq (by omega) (by omega) (by omega)] at hN; obtain ⟨rfl, rfl⟩ := Prod.mk.inj hN; have i := W; rw [Int.toNat_natCast] at i; exact ⟨rfl, hI.drop _ o E i, E⟩
 have a7 := s; refine yz 22 <| ycf <| yk <| ysr <| yp 9 [] (.l (d.c 0) (.j (((qam us).2 : Nat) : Int) (n) .z)) <| yo (yT [.slice (some ⟨D, (if b = ((((qam us).2 : Nat) : Int) : Int).toNat then ao else ao + ((((qam us).2 : Nat) : Int) : Int).toNat * 1), none⟩) (n - ((((qam us).2 : Nat) : Int) : Int).toNat) (b - ((((qam us).2 : Nat) : Int) : Int).toNat), .bool g] d fun Y Z a0 => ?_); have F : Ch (· = rv) w Y := zt f a0 iZ; refine ye <| ysr <| yp 3 [] (.q6 (((qam us).1 : Nat) : Int) .z) <| ye <| qe (yR1 (iX (((qam us).1 : Nat) : Int)) ?_); obtain rfl : g = false := y; rw [qjq (by omega) (by omega) (by omega)] at hN; obtain ⟨rfl, rfl⟩ := Prod.mk.inj hN; have i := Z; rw [Int.toNat_natCast] at i; exact ⟨rfl, hI.drop _ o F i, F⟩
theorem qZ {rv D : Nat} {s0 s1 : RS} {lim x : Int} {w : World} (hA : RdrAt w rv D s0) (hN : qP lim s0 = (x, s1)) (hlim : lim ≤ 9223372036854775807) : Calls Tryz.prog 51 [pX rv, iX lim].toArray w fun e w' => e = .returned (iX x) ∧ RdrAt w' rv D s1 ∧ Ch (· = rv) w w' := (qjr hA hN hlim).mono fun _ _ h => ⟨h.1, h.2.1.at, h.2.2⟩
set_option maxHeartbeats 4000000 in
theorem qjs {rv D : Nat} {s0 : RS} {w : World} (hA : RdrAt w rv D s0) : Calls Tryz.prog 52 [pX rv].toArray w fun e w' => e = .returned (.bool s0.isSome) ∧ Ch (fun _ => False) w w' := by
 obtain ⟨a, n, d, us, b, hI, rfl⟩ := hA; refine yA Tryz.func52 rfl <| yx 1 <| ysr <| yp 6 [] (.l (hI.blk.c 1) .z) <| ye <| qe (yR1 (.bool (!b)) ?_); refine ⟨zc ?_, (Ch.refl _ _)⟩; unfold rsOf; cases b <;> rfl
set_option maxHeartbeats 4000000 in
theorem done_any {rv D : Nat} {s0 : RS} {w : World} (hA : RdrAt w rv D s0) : Calls Tryz.prog 38 [pX rv].toArray w fun e w' => e = .returned (.bool (decide (s0 = some []))) ∧ Ch (fun _ => False) w w' := by
 obtain ⟨a, n, g, us, b, hI, rfl⟩ := hA; refine yA Tryz.func38 rfl <| yx 1 <| ysr <| yp 6 [] (.l (hI.blk.c 1) .z) <| yw [8] (rN (rY b)) (fun d => ?_) fun d => ?_
 ·refine yp 14 [] (.l (hI.blk.c 0) .z) <| ye <| qe (yR1 (.bool ((((n : Nat) : Int) : Int) == 0)) ?_); refine ⟨zc ?_, (Ch.refl _ _)⟩; have f := hI.len; unfold rsOf; cases b <;> cases us <;> simp_all <;> omega
 refine yz 14 <| qe (yR1 (.bool false) ?_); refine ⟨zc ?_, (Ch.refl _ _)⟩; have f := hI.len; unfold rsOf; cases b <;> cases us <;> simp_all <;> omega
set_option maxHeartbeats 4000000 in
theorem of_any (D : Nat) (a : Option Addr) (n cap : Nat) (us : List Int) (w : World) (hr : Rd w a (u8s us)) (hl : us.length = n) (hle : n ≤ cap) (hz : (n = 0 ∧ cap = 0) ∨ ∃ o, a = some ⟨D, o, none⟩) (hb : qd7 us) (hn : n ≤ 1000000) (hD : D < w.heap.size) : Calls Tryz.prog 31 [.slice a n cap].toArray w fun e w' => ∃ rv, e = .returned (pX rv) ∧ w.heap.size ≤ rv ∧ RdrAt w' rv D (some us) ∧ Ch (fun _ => False) w w' := by
 refine yA Tryz.func31 rfl <| yx 1 <| ysr <| yq 2 <| yo (yN [.slice a n cap, .bool false] 102 fun h d f i c g => ?_); have j := zn f (zm w); have b := zu (zm w) g iZ; refine yz 4 <| qe (yR1 (pX d) ?_); exact ⟨_, rfl, by have := c.lt; have := zs (Up.ch b); omega, ⟨a, n, cap, us, false, ⟨c, hr.ch (Up.ch b) iZ, hl, hle, hz, hb, by omega, hn, Nat.lt_of_lt_of_le hD (zs (Up.ch b))⟩, rfl⟩, Up.ch b⟩
theorem rd_front {w : World} {a : Option Addr} {xs ys : List Value} (h : Rd w a (xs ++ ys)) : Rd w a xs :=
  ⟨fun e => (List.append_eq_nil_iff.1 (h.1 e)).1, fun ad e j u hj => h.2 ad e j u (by rw [List.getElem?_append_left (List.getElem?_eq_some_iff.1 hj).1]; exact hj)⟩
set_option maxHeartbeats 4000000 in
theorem qcT {rv D : Nat} {s0 s1 : RS} {most : Int} {x : ByteArray} {w : World} (hA : RdrAt w rv D s0) (hX : qb6 most s0 = (x, s1)) (hm : 0 < most ∧ most ≤ 1000000) : Calls Tryz.prog 36 [pX rv, iX most].toArray w fun e w' => e = .returned (.string x) ∧ RdrAt w' rv D s1 ∧ Ch (· = rv) w w' := by
 obtain ⟨k, S⟩ := hm; refine yA Tryz.func36 rfl <| yx 1 <| yx 1 <| ys <| yx 2 <| yc (rL 0 most) (fun m => ?_) fun m => ?_
 ·have T := m; refine q7 <| yp 3 [] (.q6 (most + 1) .z) <| ye <| ysr <| yq 2 ?_; obtain ⟨a, U, f⟩ : ∃ x s', qP ((most + 1)) s0 = (x, s') := ⟨_, _, rfl⟩
  have u := qa7 (lim := (most + 1)) (s := s0); rw [f] at u; dsimp only at u; refine yo (yQ (qjr (lim := (most + 1)) hA f (by omega)) ?_); rintro v ⟨E, F⟩; have n : Ch (· = rv) w v := zt (Ch.refl (· = rv) w) F iZ; obtain ⟨y, g, d, vs, i, b, o, G⟩ := E; refine yz 4 <| ys <| ysr <| yp 5 [] (.l (b.blk.c 1) .z) <| yw [19] (rY i) (fun p => ?_) fun p => ?_
  ·have H := p; refine yz 13 <| yct <| ysr <| yq 3 <| yo (yT [.slice y g d, .bool true] b.blk fun I J A => ?_); have K : Ch (· = rv) w I := zt n A iZ; refine ye <| yx 1 <| qe (rS (yR1 (oX) ?_)); unfold qb6 at hX; rw [if_pos k, f] at hX; obtain rfl : i = true := H; rw [o] at hX; obtain ⟨rfl, rfl⟩ := Prod.mk.inj hX; exact ⟨rfl, (b.spoil (A) J).at, K⟩
  have q := p; refine yp 13 [] (.l (b.blk.c 0) .z) <| ye <| yc (rL ((g : Nat) : Int) a) (fun r => ?_) fun r => ?_
  ·have V := r; refine ysr <| yq 3 <| yo (yT [.slice y g d, .bool true] b.blk fun L M B => ?_); have N : Ch (· = rv) w L := zt n B iZ; refine ye <| yx 1 <| qe (rS (yR1 (oX) ?_)); unfold qb6 at hX; rw [if_pos k, f] at hX; have t : i = false := q; rw [o, t] at hX; have hX : (if (vs.length : Int) < a then (E0, none) else (qm (vs.take (a : Int).toNat), some (vs.drop (a : Int).toNat))) = (x, s1) := hX; rw [if_pos (by rw [b.len]; omega)] at hX; obtain ⟨rfl, rfl⟩ := Prod.mk.inj hX; exact ⟨rfl, (b.spoil (B) M).at, N⟩
  have W := r; have X := b.len; have Y := b.le; obtain ⟨ao, rfl⟩ := G.resolve_left (fun h => absurd (q.symm.trans h) (by decide)); refine id ?_; refine yk <| ysr <| yp 6 [] (.l (b.blk.c 0) (.j a (d) .z)) ?_; have O : Rd v (some ⟨D, ao, none⟩) ((vs.take (a : Int).toNat).map (Value.int .u8)) := by
   have h := b.rd; rw [u8s, ← List.take_append_drop (a : Int).toNat vs, List.map_append] at h; exact rd_front h
  refine yo (qaR (some ⟨D, ao, none⟩) (a : Int).toNat d (vs.take (a : Int).toNat) (some 37) (by kernel_rfl) O (by rw [List.length_take]; omega) ?_); refine yz 8 <| ysr <| yp 9 [] (.l (b.blk.c 0) (.j a (g) .z)) <| yo (yT [.slice (some ⟨D, (if d = (a : Int).toNat then ao else ao + (a : Int).toNat * 1), none⟩) (g - (a : Int).toNat) (d - (a : Int).toNat), .bool i] b.blk fun P Q C => ?_); have R : Ch (· = rv) w P := zt n C iZ; refine ye <| yx 2 <| qe (yR1 (.string (qm (vs.take (a : Int).toNat))) ?_); unfold qb6 at hX; rw [if_pos k, f] at hX; have t : i = false := q; subst t; rw [o] at hX; have hX : (if (vs.length : Int) < a then (E0, none) else (qm (vs.take (a : Int).toNat), some (vs.drop (a : Int).toNat))) = (x, s1) := hX; rw [if_neg (by rw [b.len]; omega)] at hX; obtain ⟨rfl, rfl⟩ := Prod.mk.inj hX; exact ⟨rfl, (b.drop _ (by omega) C Q).at, R⟩
 have Z := m; exfalso; omega
theorem app_bytV (xs : List Int) (x : ByteArray) : u8s xs ++ qeu x = u8s (xs ++ qaC x) := by
 unfold u8s qeu qaC; rw [List.map_append, List.map_map]; rfl
theorem qi6 (x : Int) : qab [x] = qaA x.toNat := by simp [qab]
set_option maxHeartbeats 4000000 in
theorem qaK {o : Option Nat} {n cap : Nat} {xs : List Int} {w : World} (hO : Own w tU8 1 o n cap (u8s xs)) (x : ByteArray) (hz : n + 10 + x.size ≤ 1000000000) : Calls Tryz.prog 25 [.slice (o.map at0) n cap, .string x].toArray w fun e w' => ∃ o' n' cap', e = .returned (.slice (o'.map at0) n' cap') ∧ Own w' tU8 1 o' n' cap' (u8s (xs ++ qde x)) ∧ n' ≤ n + (10 + x.size) ∧ App w w' o o' := by
 refine yA Tryz.func25 rfl <| yx 1 <| ysr <| yp 4 [3] (.p (q := InR .u64 ((x).size : Int)) (qaO (by omega) (by omega)) .z) <| yo (yB [.int .u64 ((x).size : Int)] 61 1 fun D g E F a i => ?_); have c := zv (b := g) hO; have l := hO.ch i iZ; have m := (App.refl w o).step i iZ; refine yo (yC (qau o n cap xs g 1 [((x).size : Int)] _ l (Rd.all a) rfl (by intro x hx; simp only [List.mem_cons, List.not_mem_nil, or_false] at hx; subst hx; constructor <;> omega) a.lt c (by omega)) ?_); rintro _ G ⟨r, d, s, rfl, t, H, f⟩; refine ⟨_, rfl, ?_⟩; have u := f.apart a.lt c; have v := m.trans f; have y := a.ch f.ch (fun h => c _ h rfl); refine yq 7 ?_; refine yo (e_appS 5 r d s (u8s (xs ++ qab [((x).size : Int)])) x (some 12) (d + (x).size) rfl (by kernel_rfl) t (by constructor <;> first | omega | (simp only [maxLen]; omega)) ?_); intro I A B j k; rw [app_bytV] at j; have J := k.apart y.lt u; have C := v.trans k; refine yz 9 <| qe (yR1 (.slice (A.map at0) (d + (x).size) B) ?_); exact ⟨_, _, _, rfl, by have h := j; rw [qi6, Int.toNat_natCast, List.append_assoc] at h; exact h, by omega, C⟩
def qfh (s : Sty) : Int :=
  let n0 := ql .or .u64 s.fore (IntKind.wrap .u64 (s.back * 2 ^ min (4 : Int).toNat (IntKind.bits .u64)))
  let n1 := if s.bold = true then ql .or .u64 n0 256 else n0
  let n2 := if s.under = true then ql .or .u64 n1 512 else n1
  if s.turned = true then ql .or .u64 n2 1024 else n2
theorem qm8 : ∀ f, f < 9 → ∀ k, k < 9 → ∀ a b c : Bool, qfh ⟨a, b, c, ((f : Nat) : Int), ((k : Nat) : Int)⟩ = ((qc4 ⟨a, b, c, ((f : Nat) : Int), ((k : Nat) : Int)⟩ : Nat) : Int) := by decide +kernel
theorem bitsG_eq {s : Sty} (h : qA s = true) : qfh s = ((qc4 s : Nat) : Int) := by
 obtain ⟨a, b, c, f, k⟩ := s; simp only [qA, Bool.and_eq_true, decide_eq_true_eq] at h; obtain ⟨f, rfl⟩ : ∃ n : Nat, f = (n : Int) := ⟨f.toNat, by omega⟩
 obtain ⟨k, rfl⟩ : ∃ n : Nat, k = (n : Int) := ⟨k.toNat, by omega⟩
 exact qm8 f (by omega) k (by omega) a b c
theorem qcU {s : Sty} {v : Int} (h : qA s = true) (e : qfh s = v) : v = ((qc4 s : Nat) : Int) := e.symm.trans (bitsG_eq h)
theorem style_bd {s : Sty} (h : qA s = true) : (0 ≤ s.fore ∧ s.fore ≤ 8) ∧ 0 ≤ s.back ∧ s.back ≤ 8 := by
 simp only [qA, Bool.and_eq_true, decide_eq_true_eq] at h; omega
set_option maxHeartbeats 4000000 in
theorem bits_any (sx : Sty) (hs : qA sx = true) (w : World) : Calls Tryz.prog 63 [.agg #[.bool sx.bold, .bool sx.under, .bool sx.turned, iX sx.fore, iX sx.back]].toArray w fun e w' => e = .returned (.int .u64 ((qc4 sx : Nat) : Int)) ∧ Ch (fun _ => False) w w' := by
 have G := style_bd hs; refine yA Tryz.func63 rfl <| ysr <| yo (yN [.bool sx.bold, .bool sx.under, .bool sx.turned, iX sx.fore, iX sx.back] 44 fun H I u J b v => ?_); have K := zn u (zm w); have a := zu (zm w) v iZ; refine yz 2 <| ysr <| yp 9 [2, 5] (.l (b.c 3) (.p (q := InR .u64 sx.fore) (qaO (by omega) (by omega)) (.l (b.c 4) (.p (q := InR .u64 sx.back) (qaO (by omega) (by omega)) (.p (q := 0 ≤ (4 : Int)) (by omega) .z))))) <| ye <| ys <| ysr <| yp 8 [] (.l (b.c 0) (.l (b.c 1) (.l (b.c 2) .z))) <| ye <| q8 <| yU 4 (yU1 ?_); refine yx 1 <| ys <| yct <| yk <| ys <| q8 <| yx 4 <| yx 1 <| yc (rY sx.bold) (fun g => ?_) fun g => ?_
 ·have d := g; refine q7 <| yp 5 [] (.p (q := 0 ≤ (0 : Int)) (by omega) .z) <| yE (nB (nS ?_)); refine q7 <| yp 2 [] (.q6 1 .z) <| yE (nU (yU1 ?_)); refine yx 1 <| ys <| yct <| yk <| ys <| q8 <| yx 4 <| yx 1 <| yc (rY sx.under) (fun h => ?_) fun h => ?_
  ·have o := h; refine q7 <| yp 5 [] (.p (q := 0 ≤ (1 : Int)) (by omega) .z) <| yE (nB (nS ?_)); refine q7 <| yp 2 [] (.q6 2 .z) <| yE (nU (yU1 ?_)); refine yx 1 <| ys <| yct <| yk <| ys <| q8 <| yx 4 <| yx 1 <| yc (rY sx.turned) (fun i => ?_) fun i => ?_
   ·have x := i; refine q7 <| yp 5 [] (.p (q := 0 ≤ (2 : Int)) (by omega) .z) <| yE (nB (nS ?_)); refine q7 <| yp 2 [] (.q6 3 .z) <| yE (nU (yU1 ?_)); refine yx 1 <| ys <| ycf <| qo (eS (qg (qd (nS ?_)))); refine yx 2 <| qe (yR1 (.int .u64 (ql .or .u64 (ql .or .u64 (ql .or .u64 (ql .or .u64 sx.fore (IntKind.wrap .u64 (sx.back * 2 ^ min (4 : Int).toNat (IntKind.bits .u64)))) 256) 512) 1024)) ?_); refine ⟨congrArg Ending.returned (congrArg (Value.int .u64) ?_), Up.ch a⟩; refine qcU hs ?_; unfold qfh; simp only [d, o, x, Bool.false_eq_true, ↓reduceIte]
   have y := i; refine qr (nB (nS ?_)); refine q7 <| yp 2 [] (.q6 3 .z) <| yE (nU (yU1 ?_)); refine yx 1 <| ys <| ycf <| qo (eS (qg (qd (nS ?_)))); refine yx 2 <| qe (yR1 (.int .u64 (ql .or .u64 (ql .or .u64 (ql .or .u64 sx.fore (IntKind.wrap .u64 (sx.back * 2 ^ min (4 : Int).toNat (IntKind.bits .u64)))) 256) 512)) ?_); refine ⟨congrArg Ending.returned (congrArg (Value.int .u64) ?_), Up.ch a⟩; refine qcU hs ?_; unfold qfh; simp only [d, o, y, Bool.false_eq_true, ↓reduceIte]
  have r := h; refine qr (nB (nS ?_)); refine q7 <| yp 2 [] (.q6 2 .z) <| yE (nU (yU1 ?_)); refine yx 1 <| ys <| yct <| yk <| ys <| q8 <| yx 4 <| yx 1 <| yc (rY sx.turned) (fun j => ?_) fun j => ?_
  ·have A := j; refine q7 <| yp 5 [] (.p (q := 0 ≤ (2 : Int)) (by omega) .z) <| yE (nB (nS ?_)); refine q7 <| yp 2 [] (.q6 3 .z) <| yE (nU (yU1 ?_)); refine yx 1 <| ys <| ycf <| qo (eS (qg (qd (nS ?_)))); refine yx 2 <| qe (yR1 (.int .u64 (ql .or .u64 (ql .or .u64 (ql .or .u64 sx.fore (IntKind.wrap .u64 (sx.back * 2 ^ min (4 : Int).toNat (IntKind.bits .u64)))) 256) 1024)) ?_); refine ⟨congrArg Ending.returned (congrArg (Value.int .u64) ?_), Up.ch a⟩; refine qcU hs ?_; unfold qfh; simp only [d, r, A, Bool.false_eq_true, ↓reduceIte]
  have B := j; refine qr (nB (nS ?_)); refine q7 <| yp 2 [] (.q6 3 .z) <| yE (nU (yU1 ?_)); refine yx 1 <| ys <| ycf <| qo (eS (qg (qd (nS ?_)))); refine yx 2 <| qe (yR1 (.int .u64 (ql .or .u64 (ql .or .u64 sx.fore (IntKind.wrap .u64 (sx.back * 2 ^ min (4 : Int).toNat (IntKind.bits .u64)))) 256)) ?_); refine ⟨congrArg Ending.returned (congrArg (Value.int .u64) ?_), Up.ch a⟩; refine qcU hs ?_; unfold qfh; simp only [d, r, B, Bool.false_eq_true, ↓reduceIte]
 have f := g; refine qr (nB (nS ?_)); refine q7 <| yp 2 [] (.q6 1 .z) <| yE (nU (yU1 ?_)); refine yx 1 <| ys <| yct <| yk <| ys <| q8 <| yx 4 <| yx 1 <| yc (rY sx.under) (fun k => ?_) fun k => ?_
 ·have s := k; refine q7 <| yp 5 [] (.p (q := 0 ≤ (1 : Int)) (by omega) .z) <| yE (nB (nS ?_)); refine q7 <| yp 2 [] (.q6 2 .z) <| yE (nU (yU1 ?_)); refine yx 1 <| ys <| yct <| yk <| ys <| q8 <| yx 4 <| yx 1 <| yc (rY sx.turned) (fun m => ?_) fun m => ?_
  ·have C := m; refine q7 <| yp 5 [] (.p (q := 0 ≤ (2 : Int)) (by omega) .z) <| yE (nB (nS ?_)); refine q7 <| yp 2 [] (.q6 3 .z) <| yE (nU (yU1 ?_)); refine yx 1 <| ys <| ycf <| qo (eS (qg (qd (nS ?_)))); refine yx 2 <| qe (yR1 (.int .u64 (ql .or .u64 (ql .or .u64 (ql .or .u64 sx.fore (IntKind.wrap .u64 (sx.back * 2 ^ min (4 : Int).toNat (IntKind.bits .u64)))) 512) 1024)) ?_); refine ⟨congrArg Ending.returned (congrArg (Value.int .u64) ?_), Up.ch a⟩; refine qcU hs ?_; unfold qfh; simp only [f, s, C, Bool.false_eq_true, ↓reduceIte]
  have D := m; refine qr (nB (nS ?_)); refine q7 <| yp 2 [] (.q6 3 .z) <| yE (nU (yU1 ?_)); refine yx 1 <| ys <| ycf <| qo (eS (qg (qd (nS ?_)))); refine yx 2 <| qe (yR1 (.int .u64 (ql .or .u64 (ql .or .u64 sx.fore (IntKind.wrap .u64 (sx.back * 2 ^ min (4 : Int).toNat (IntKind.bits .u64)))) 512)) ?_); refine ⟨congrArg Ending.returned (congrArg (Value.int .u64) ?_), Up.ch a⟩; refine qcU hs ?_; unfold qfh; simp only [f, s, D, Bool.false_eq_true, ↓reduceIte]
 have t := k; refine qr (nB (nS ?_)); refine q7 <| yp 2 [] (.q6 2 .z) <| yE (nU (yU1 ?_)); refine yx 1 <| ys <| yct <| yk <| ys <| q8 <| yx 4 <| yx 1 <| yc (rY sx.turned) (fun n => ?_) fun n => ?_
 ·have E := n; refine q7 <| yp 5 [] (.p (q := 0 ≤ (2 : Int)) (by omega) .z) <| yE (nB (nS ?_)); refine q7 <| yp 2 [] (.q6 3 .z) <| yE (nU (yU1 ?_)); refine yx 1 <| ys <| ycf <| qo (eS (qg (qd (nS ?_)))); refine yx 2 <| qe (yR1 (.int .u64 (ql .or .u64 (ql .or .u64 sx.fore (IntKind.wrap .u64 (sx.back * 2 ^ min (4 : Int).toNat (IntKind.bits .u64)))) 1024)) ?_); refine ⟨congrArg Ending.returned (congrArg (Value.int .u64) ?_), Up.ch a⟩; refine qcU hs ?_; unfold qfh; simp only [f, t, E, Bool.false_eq_true, ↓reduceIte]
 have F := n; refine qr (nB (nS ?_)); refine q7 <| yp 2 [] (.q6 3 .z) <| yE (nU (yU1 ?_)); refine yx 1 <| ys <| ycf <| qo (eS (qg (qd (nS ?_)))); refine yx 2 <| qe (yR1 (.int .u64 (ql .or .u64 sx.fore (IntKind.wrap .u64 (sx.back * 2 ^ min (4 : Int).toNat (IntKind.bits .u64))))) ?_); refine ⟨congrArg Ending.returned (congrArg (Value.int .u64) ?_), Up.ch a⟩; refine qcU hs ?_; unfold qfh; simp only [f, t, F, Bool.false_eq_true, ↓reduceIte]
set_option maxHeartbeats 4000000 in
theorem qcV {o : Option Nat} {n cap : Nat} {xs : List Int} {w : World} (hO : Own w tU8 1 o n cap (u8s xs)) (sx : Sty) (hs : qA sx = true) (hz : n + 10 ≤ 1000000000) : Calls Tryz.prog 49 [.slice (o.map at0) n cap, .agg #[.bool sx.bold, .bool sx.under, .bool sx.turned, iX sx.fore, iX sx.back]].toArray w fun e w' => ∃ o' n' cap', e = .returned (.slice (o'.map at0) n' cap') ∧ Own w' tU8 1 o' n' cap' (u8s (xs ++ qaA (qc4 sx))) ∧ n' ≤ n + 10 ∧ App w w' o o' := by
 have G := qd9 hs; refine yA Tryz.func49 rfl <| ysr <| yo (yN [.bool sx.bold, .bool sx.under, .bool sx.turned, iX sx.fore, iX sx.back] 44 fun H p I J i j => ?_); have q := zv (b := p) hO; have r := hO.ch j iZ; have s := (App.refl w o).step j iZ; refine yz 2 <| ysr <| yp 2 [] (.a (i.cs 0 5) .z) <| yo (yQ (bits_any sx hs _) fun K c => ?_); have k := r.ch c iZ; have t := s.step c iZ; have u := i.ch c id; refine yo (yB [.int .u64 ((qc4 sx : Nat) : Int)] 61 1 fun L l M N d f => ?_); have m := zv (b := l) k; have v := k.ch f iZ; have y := t.step f iZ; have A := u.ch f id; refine yo (yC (qau o n cap xs l 1 [((qc4 sx : Nat) : Int)] _ v (Rd.all d) rfl (by intro x hx; simp only [List.mem_cons, List.not_mem_nil, or_false] at hx; subst hx; constructor <;> omega) d.lt m (by omega)) ?_); rintro _ O ⟨B, C, D, rfl, E, P, g⟩; refine ⟨_, rfl, ?_⟩; have Q := g.apart A.lt q; have R := g.apart d.lt m; have F := y.trans g; refine yz 6 <| qe (yR1 (.slice (B.map at0) C D) ?_); exact ⟨_, _, _, rfl, by have h := E; rw [qi6, Int.toNat_natCast] at h; exact h, by omega, F⟩
def styG (x : Int) : Sty := ⟨decide (0 < ql .and .i64 x 256), decide (0 < ql .and .i64 x 512), decide (0 < ql .and .i64 x 1024), ql .and .i64 x 15, ql .and .i64 (Int.fdiv x (2 ^ min (4 : Int).toNat (IntKind.bits .i64))) 15⟩
set_option maxRecDepth 100000 in
theorem styG_all : ∀ n, n < 2048 → styG ((n : Nat) : Int) = qlZ n := by decide +kernel
theorem qiK {s s1 : RS} {x : Int} (h : qP 2048 s = (x, s1)) : qft s = if (s1.isSome && qA (styG x)) = true then (styG x, true, s1) else (qca, false, s1) := by
 have hb := qa7 (lim := 2048) (s := s); rw [h] at hb; dsimp only at hb; have a := hb.2.2 (by decide); have e : styG x = qlZ x.toNat := by
  have := styG_all x.toNat (by omega); rwa [Int.toNat_of_nonneg hb.1] at this
 unfold qft; rw [h, e]
theorem qjt {l : List Cel} {c : Cel} {i k : Nat} (hik : i ≤ k) (hk : k ≤ l.length) (h : ∀ j : Nat, i ≤ j → j < k → gc l (j : Int) = c) : l.drop i = List.replicate (k - i) c ++ l.drop k := by
 apply List.ext_getElem?; intro j; rw [List.getElem?_drop, List.getElem?_append, List.length_replicate]; split
 ·rename_i hj; rw [List.getElem?_replicate, if_pos hj, List.getElem?_eq_getElem (by omega), ← qcB (by omega), h (i + j) (by omega) (by omega)]
 rename_i hj; rw [List.getElem?_drop]; congr 1; omega
theorem qi7 (x y : Int) : qab [x, y] = qaA x.toNat ++ qaA y.toNat := by simp [qab]
theorem qi8 {l : List Cel} {k : Nat} (h : k < l.length) : (l.drop k).head? = some (gc l (k : Int)) := by
 rw [List.head?_drop, List.getElem?_eq_getElem h, qcB h]
set_option maxHeartbeats 4000000 in
theorem qdR {rv D : Nat} {s0 s1 : RS} {t : Sty} {ok : Bool} {w : World} (hA : RdrAt w rv D s0) (hS : qft s0 = (t, ok, s1)) : Calls Tryz.prog 53 [pX rv].toArray w fun e w' => e = .returned (.tuple #[.agg #[.bool t.bold, .bool t.under, .bool t.turned, iX t.fore, iX t.back], .bool ok]) ∧ RdrAt w' rv D s1 ∧ Ch (· = rv) w w' := by
 refine yA Tryz.func53 rfl <| ysr <| yo (yN [.bool false, .bool false, .bool false, iX 0, iX 0] 44 fun P c Q am R v => ?_); have S : Ch (· = rv) w P := zt (Ch.refl (· = rv) w) v eZ; have d : w.heap.size ≤ c := by rw [Q]; exact zs (Ch.refl (· = rv) w)
 have T := hA.ch v id id; refine yz 2 <| ysr <| yq 1 ?_; obtain ⟨b, U, f⟩ : ∃ x s', qP (2048) s0 = (x, s') := ⟨_, _, rfl⟩
 have y := qa7 (lim := 2048) (s := s0); rw [f] at y; dsimp only at y; refine yo (yQ (qZ (lim := 2048) T f (by omega)) ?_); rintro V ⟨W, A⟩; have B : Ch (· = rv) w V := zt S A iZ; have C := R.ch A (fun (h : c = rv) => by have := d; have := hA.lt; omega); refine yz 3 <| ysr <| yp 15 [] (.p (q := 0 ≤ (4 : Int)) (by omega) .z) <| yo (yN [.bool false, .bool false, .bool false, iX 0, iX 0] 44 fun X g Y an Z m => ?_); have a0 : Ch (· = rv) w X := zt B m eZ; have n := zn Y B; have a1 := C.ch m id; have a2 := W.ch m id id; refine yo (yT [.bool (decide (0 < (ql .and .i64 b 256))), .bool (decide (0 < (ql .and .i64 b 512))), .bool (decide (0 < (ql .and .i64 b 1024))), iX (ql .and .i64 b 15), iX (ql .and .i64 (Int.fdiv b (2 ^ min (4 : Int).toNat (IntKind.bits .i64))) 15)] Z fun a3 a4 o => ?_); have a5 : Ch (· = rv) w a3 := zt a0 o (fun i hi (h : i = g) => by have := n; omega); have a6 := a1.ch o (fun (h : c = g) => by have := C.lt; omega); have E := a2.ch o (fun (h : rv = g) => by have := n; have := hA.lt; omega) (fun (h : D = g) => by have := n; have := hA.dlt; omega); refine ye <| ys <| ysr <| yq 1 <| yo (yQ (qjs E) fun a7 j => ?_); have F : Ch (· = rv) w a7 := zt a5 j eZ; have G := a6.ch j id; have H := E.ch j id id; have I := a4.ch j id; refine yq 4 <| yw [26] (rN (rY U.isSome)) (fun k => ?_) fun k => ?_
 ·refine yz 8 <| yct <| ysr <| yq 1 <| yo (yT [.bool false, .bool false, .bool false, iX 0, iX 0] G fun a8 a9 J => ?_); have aa : Ch (· = rv) w a8 := zt F J (fun i hi (h : i = c) => by have := d; omega); have ab := H.ch J (fun (h : rv = c) => by have := d; have := hA.lt; omega) (fun (h : D = c) => by have := d; have := hA.dlt; omega); refine yz 3 <| qe (rS (yR2 [.agg #[.bool false, .bool false, .bool false, iX 0, iX 0], .bool false] (.a (a9.cs 0 5) .z) ?_)); rw [qiK f] at hS; rw [if_neg (by rw [k]; simp)] at hS; simp only [Prod.mk.injEq] at hS; obtain ⟨rfl, rfl, rfl⟩ := hS; exact ⟨rfl, ab, aa⟩
 refine yp 5 [] (.a (I.cs 0 5) .z) <| yo (yQ (qhm ⟨(decide (0 < (ql .and .i64 b 256))), (decide (0 < (ql .and .i64 b 512))), (decide (0 < (ql .and .i64 b 1024))), (ql .and .i64 b 15), (ql .and .i64 (Int.fdiv b (2 ^ min (4 : Int).toNat (IntKind.bits .i64))) 15)⟩ _) fun ac l => ?_); have K : Ch (· = rv) w ac := zt F l eZ; have L := G.ch l id; have M := H.ch l id id; have ad := I.ch l id; refine yz 8 <| yc (rN (rY (qA ⟨(decide (0 < (ql .and .i64 b 256))), (decide (0 < (ql .and .i64 b 512))), (decide (0 < (ql .and .i64 b 1024))), (ql .and .i64 b 15), (ql .and .i64 (Int.fdiv b (2 ^ min (4 : Int).toNat (IntKind.bits .i64))) 15)⟩))) (fun r => ?_) fun r => ?_
 ·have u : qA (styG b) = false := r; refine ysr <| yq 1 <| yo (yT [.bool false, .bool false, .bool false, iX 0, iX 0] L fun ae af N => ?_); have ag : Ch (· = rv) w ae := zt K N (fun i hi (h : i = c) => by have := d; omega); have ah := M.ch N (fun (h : rv = c) => by have := d; have := hA.lt; omega) (fun (h : D = c) => by have := d; have := hA.dlt; omega); refine yz 3 <| qe (rS (yR2 [.agg #[.bool false, .bool false, .bool false, iX 0, iX 0], .bool false] (.a (af.cs 0 5) .z) ?_)); rw [qiK f] at hS; rw [if_neg (by rw [k, u]; decide)] at hS; simp only [Prod.mk.injEq] at hS; obtain ⟨rfl, rfl, rfl⟩ := hS; exact ⟨rfl, ah, ag⟩
 have u : qA (styG b) = true := r; refine yk <| ysr <| yp 1 [] (.a (ad.cs 0 5) .z) <| yo (yT [.bool (decide (0 < (ql .and .i64 b 256))), .bool (decide (0 < (ql .and .i64 b 512))), .bool (decide (0 < (ql .and .i64 b 1024))), iX (ql .and .i64 b 15), iX (ql .and .i64 (Int.fdiv b (2 ^ min (4 : Int).toNat (IntKind.bits .i64))) 15)] L fun ai aj O => ?_); have ak : Ch (· = rv) w ai := zt K O (fun i hi (h : i = c) => by have := d; omega); have al := M.ch O (fun (h : rv = c) => by have := d; have := hA.lt; omega) (fun (h : D = c) => by have := d; have := hA.dlt; omega); refine yz 3 <| qe (yR2 [.agg #[.bool (decide (0 < (ql .and .i64 b 256))), .bool (decide (0 < (ql .and .i64 b 512))), .bool (decide (0 < (ql .and .i64 b 1024))), iX (ql .and .i64 b 15), iX (ql .and .i64 (Int.fdiv b (2 ^ min (4 : Int).toNat (IntKind.bits .i64))) 15)], .bool true] (.a (aj.cs 0 5) .z) ?_); rw [qiK f] at hS; rw [if_pos (by rw [k, u]; rfl)] at hS; simp only [Prod.mk.injEq] at hS; obtain ⟨rfl, rfl, rfl⟩ := hS; exact ⟨rfl, al, ak⟩
set_option maxHeartbeats 4000000 in
theorem qdn {o : Option Nat} {n cap : Nat} {xs : List Int} {w : World} (hO : Own w tU8 1 o n cap (u8s xs)) (lb ln lc : Nat) (l : List Cel) (hr : Rd w (some ⟨lb, 0, none⟩) (qa6 l)) (hlb : lb < w.heap.size) (hne : ∀ b, o = some b → ¬ b = lb) (hln : l.length = ln) (hcs : ∀ c ∈ l, cOk c) (hz : n + 30 * ln ≤ 1000000000) : Calls Tryz.prog 23 [.slice (o.map at0) n cap, .slice (some ⟨lb, 0, none⟩) ln lc].toArray w fun e w' => ∃ o' n' cap', e = .returned (.slice (o'.map at0) n' cap') ∧ Own w' tU8 1 o' n' cap' (u8s (xs ++ qU l)) ∧ n' ≤ n + 30 * ln ∧ App w w' o o' := by
 refine yA Tryz.func23 rfl <| yx 1 <| ys <| yx 1 <| q8 <| qT [0, 1, 5] (f' := [(0, .slice (o.map at0) n cap), (1, .slice (some ⟨lb, 0, none⟩) ln lc), (5, iX 0)]) <| qz (σ := Nat × List Int × Option Nat × Nat × Nat) (fun ⟨i, ws, g, r, s⟩ => [(0, .slice (g.map at0) r s), (1, .slice (some ⟨lb, 0, none⟩) ln lc), (5, iX ((i : Nat) : Int))]) (fun ⟨i, ws, g, r, s⟩ u => i ≤ ln ∧ ws ++ qU (l.drop i) = qU l ∧ Own u tU8 1 g r s (u8s (xs ++ ws)) ∧ App w u o g ∧ r ≤ n + 30 * i) (fun ⟨i, ws, g, r, s⟩ => ln - i) (0, [], o, n, cap) rfl ?_ ?_
 ·exact ⟨Nat.zero_le _, rfl, by rw [List.append_nil]; exact hO, App.refl _ _, Nat.le_refl _⟩
 intro p af ag aQ W; obtain ⟨i, ws, g, r, s⟩ := p; obtain ⟨hi, C, I, D, aR⟩ := ag; have ah := Ch.rd D.ch hr (fun h => hne _ h rfl); have d := D.apart hlb hne; refine ys <| yx 4 <| yc (rL ((i : Nat) : Int) ((ln : Nat) : Int)) (fun ai => ?_) fun ai => ?_
 ·have aj := hcs _ (qlK (l := l) (i := i) (by omega)); obtain ⟨X, aS, aT⟩ := aj; refine yk <| q8 <| yx 2 <| ys <| q8 <| qT [0, 1, 5, 6] (f' := [(0, .slice (g.map at0) r s), (1, .slice (some ⟨lb, 0, none⟩) ln lc), (5, iX ((i : Nat) : Int)), (6, iX ((i : Nat) : Int))]) <| qz (σ := Nat) (fun k => [(0, .slice (g.map at0) r s), (1, .slice (some ⟨lb, 0, none⟩) ln lc), (5, iX ((i : Nat) : Int)), (6, iX ((k : Nat) : Int))]) (fun k u => i ≤ k ∧ k ≤ ln ∧ (∀ j : Nat, i ≤ j → j < k → gc l (j : Int) = gc l ((i : Nat) : Int)) ∧ Ch (fun _ => False) af u) (fun k => ln - k) i rfl ?_ ?_
  ·exact ⟨Nat.le_refl _, hi, fun j Y h2 => by omega, Ch.refl _ _⟩
  intro k aU al aV am; obtain ⟨an, aW, J, E⟩ := al; have ao := I.ch E iZ; have ap := D.step E iZ; have aq := Ch.rd E ah id; refine ys <| ys <| yD [] fun aX aY F => ?_; have ar := zt E F iZ; have Z := ao.ch F iZ; have a0 := ap.step F iZ; have f := Ch.rd F aq id; refine yd (uL 0 5) [] .z <| yv [16] (rL ((k : Nat) : Int) ((ln : Nat) : Int)) (fun au => ?_) fun au => ?_
  ·refine yd (uL 5 10) [] (.i ((k : Nat) : Int) (ln) (.m (qcb (i := ((k : Nat) : Int)) f (by omega) (by omega)) (.m (qcc (i := ((k : Nat) : Int)) f (by omega) (by omega)) (.m (qbk (i := ((k : Nat) : Int)) f (by omega) (by omega)) (.m (qaL (i := ((k : Nat) : Int)) f (by omega) (by omega)) (.m (qcd (i := ((k : Nat) : Int)) f (by omega) (by omega)) (.m (qce (i := ((k : Nat) : Int)) f (by omega) (by omega)) (.e (.i ((i : Nat) : Int) (ln) (.m (qcb (i := ((i : Nat) : Int)) f (by omega) (by omega)) (.m (qcc (i := ((i : Nat) : Int)) f (by omega) (by omega)) (.m (qbk (i := ((i : Nat) : Int)) f (by omega) (by omega)) (.m (qaL (i := ((i : Nat) : Int)) f (by omega) (by omega)) (.m (qcd (i := ((i : Nat) : Int)) f (by omega) (by omega)) (.m (qce (i := ((i : Nat) : Int)) f (by omega) (by omega)) (.e .z)))))))))))))))) <| yDe (nS ?_); refine yc (rY ((((gc l ((k : Nat) : Int)).rune : Int) == (gc l ((i : Nat) : Int)).rune) && ((((gc l ((k : Nat) : Int)).sty.bold == (gc l ((i : Nat) : Int)).sty.bold) && (((gc l ((k : Nat) : Int)).sty.under == (gc l ((i : Nat) : Int)).sty.under) && (((gc l ((k : Nat) : Int)).sty.turned == (gc l ((i : Nat) : Int)).sty.turned) && ((((gc l ((k : Nat) : Int)).sty.fore : Int) == (gc l ((i : Nat) : Int)).sty.fore) && ((((gc l ((k : Nat) : Int)).sty.back : Int) == (gc l ((i : Nat) : Int)).sty.back) && true))))) && true))) (fun t => ?_) fun t => ?_
   ·rw [qe9] at t; have av := eq_of_beq t; refine yk <| q8 <| q7 <| yp 3 [] (.q6 (((k : Nat) : Int) + 1) .z) <| yE (nB  (fun a ha => am (k + 1) _ ⟨by omega, by omega, fun j Y h2 => (Nat.lt_or_ge j k).elim (J j Y) (fun h3 => by rw [show j = k by omega]; exact av), ar⟩ (by show ln - (k + 1) < ln - k; omega) a (ha.kp [0, 1, 5, 6])))
   rw [qe9] at t; have K : (l.drop k).head? ≠ some (gc l ((i : Nat) : Int)) := by rw [qi8 (by omega)]; intro e; rw [zi e] at t; simp at t
   have aw : i < k := by
    rcases Nat.eq_or_lt_of_le an with e | e
    ·subst e; simp at t
    exact e
   refine qo (eS (qg (qd (nS ?_)))); refine ys <| qG (fun b => g = some b) [18] (by kernel_rfl) (fun b0 b1 L => ?_); have a1 := Z.ch L iZ; have ax := a0.step L iZ; have v := Ch.rd L f id; refine ydC [0, 1, 2, 3, 4, 5, 6, 7, 8, 9, 10, 13, 14, 15, 16, 17] [4, 10] (fun u hu => (.q6 (((k : Nat) : Int) - ((i : Nat) : Int)) (.p (q := InR .u64 (((k : Nat) : Int) - ((i : Nat) : Int))) (qaO (by omega) (by omega)) (.i ((i : Nat) : Int) (ln) (.l (qf hu (qcb (i := ((i : Nat) : Int)) v (by omega) (by omega)) (fun h => d _ h rfl)) (.p (q := InR .u64 (gc l ((i : Nat) : Int)).rune) (qaO (by omega) (by omega)) (.i ((i : Nat) : Int) (ln) (.m (qf hu (qcc (i := ((i : Nat) : Int)) v (by omega) (by omega)) (fun h => d _ h rfl)) (.m (qf hu (qbk (i := ((i : Nat) : Int)) v (by omega) (by omega)) (fun h => d _ h rfl)) (.m (qf hu (qaL (i := ((i : Nat) : Int)) v (by omega) (by omega)) (fun h => d _ h rfl)) (.m (qf hu (qcd (i := ((i : Nat) : Int)) v (by omega) (by omega)) (fun h => d _ h rfl)) (.m (qf hu (qce (i := ((i : Nat) : Int)) v (by omega) (by omega)) (fun h => d _ h rfl)) (.e .z))))))))))))) <| yH 11 (yB [.int .u64 (((k : Nat) : Int) - ((i : Nat) : Int)), .int .u64 (gc l ((i : Nat) : Int)).rune] 61 2 fun b2 a2 b3 b4 G M => ?_); have N := zv (b := a2) a1; have ay := a1.ch M iZ; have a3 := ax.step M iZ; refine qj M eZ ?_; refine yH 12 (yC (qau g r s (xs ++ ws) a2 2 [(((k : Nat) : Int) - ((i : Nat) : Int)), (gc l ((i : Nat) : Int)).rune] _ ay (Rd.all G) rfl (by intro x hx; simp only [List.mem_cons, List.not_mem_nil, or_false] at hx; rcases hx with rfl | rfl <;> (constructor <;> omega)) G.lt N (by omega)) ?_)
   rintro _ b5 ⟨b6, b7, b8, rfl, az, b9, A⟩; refine ⟨_, rfl, ?_⟩; have aA := A.apart (Nat.lt_of_lt_of_le hlb a3.ch.size) d; have aB := A.apart G.lt N; have a4 := a3.trans A; have aC := G.ch A.ch (fun h => N _ h rfl); refine qj A.ch iZ <| yK 18 (yC (qcV az (gc l ((i : Nat) : Int)).sty X (by omega)) ?_); rintro _ aD ⟨a5, a6, a7, rfl, aE, ba, O⟩; refine ⟨_, rfl, ?_⟩; have bb := O.apart (Nat.lt_of_lt_of_le hlb a4.ch.size) aA; have bc := O.apart aC.lt aB; have aF := a4.trans O; refine q9 <| yd [19] [] .z <| yDe (nS ?_); refine q7 <| yq 2 ?_; have P : (((k : Nat) : Int) - ((i : Nat) : Int) : Int).toNat = k - i := by omega
   have Q : (ws ++ qbO (k - i) (gc l ((i : Nat) : Int))) ++ qU (l.drop k) = qU l := by
    rw [← C, qjt (c := (gc l ((i : Nat) : Int))) (by omega) (by omega) J, show k - i = (k - i - 1) + 1 by omega, qcq K, List.append_assoc]
   have R : Own aD tU8 1 a5 a6 a7 (u8s (xs ++ (ws ++ qbO (k - i) (gc l ((i : Nat) : Int))))) := by
    have h := aE; rw [qi7, P] at h; unfold qbO; simp only [List.append_assoc] at h ⊢; exact h
   refine yE (nB  (fun a ha => W (k, ws ++ qbO (k - i) (gc l ((i : Nat) : Int)), a5, a6, a7) _ ⟨by omega, Q, R, aF, by omega⟩ (by show ln - k < ln - i; omega) a (ha.kp [0, 1, 5])))
  have K : (l.drop k).head? ≠ some (gc l ((i : Nat) : Int)) := by rw [List.drop_eq_nil_of_le (by omega)]; simp
  have aw : i < k := by omega
  refine yd (uL 5 10) [] .z <| yDe (nS ?_); refine ycf <| qo (eS (qg (qd (nS ?_)))); refine ys <| qG (fun b => g = some b) [18] (by kernel_rfl) (fun bd bf S => ?_); have a8 := Z.ch S iZ; have aG := a0.step S iZ; have y := Ch.rd S f id; refine ydC [0, 1, 2, 3, 4, 5, 6, 7, 8, 9, 10, 13, 14, 15, 16, 17] [4, 10] (fun u hu => (.q6 (((k : Nat) : Int) - ((i : Nat) : Int)) (.p (q := InR .u64 (((k : Nat) : Int) - ((i : Nat) : Int))) (qaO (by omega) (by omega)) (.i ((i : Nat) : Int) (ln) (.l (qf hu (qcb (i := ((i : Nat) : Int)) y (by omega) (by omega)) (fun h => d _ h rfl)) (.p (q := InR .u64 (gc l ((i : Nat) : Int)).rune) (qaO (by omega) (by omega)) (.i ((i : Nat) : Int) (ln) (.m (qf hu (qcc (i := ((i : Nat) : Int)) y (by omega) (by omega)) (fun h => d _ h rfl)) (.m (qf hu (qbk (i := ((i : Nat) : Int)) y (by omega) (by omega)) (fun h => d _ h rfl)) (.m (qf hu (qaL (i := ((i : Nat) : Int)) y (by omega) (by omega)) (fun h => d _ h rfl)) (.m (qf hu (qcd (i := ((i : Nat) : Int)) y (by omega) (by omega)) (fun h => d _ h rfl)) (.m (qf hu (qce (i := ((i : Nat) : Int)) y (by omega) (by omega)) (fun h => d _ h rfl)) (.e .z))))))))))))) <| yH 11 (yB [.int .u64 (((k : Nat) : Int) - ((i : Nat) : Int)), .int .u64 (gc l ((i : Nat) : Int)).rune] 61 2 fun bg a9 bh bi H T => ?_); have U := zv (b := a9) a8; have aH := a8.ch T iZ; have aa := aG.step T iZ; refine qj T eZ ?_; refine yH 12 (yC (qau g r s (xs ++ ws) a9 2 [(((k : Nat) : Int) - ((i : Nat) : Int)), (gc l ((i : Nat) : Int)).rune] _ aH (Rd.all H) rfl (by intro x hx; simp only [List.mem_cons, List.not_mem_nil, or_false] at hx; rcases hx with rfl | rfl <;> (constructor <;> omega)) H.lt U (by omega)) ?_)
  rintro _ bj ⟨bk, bl, bm, rfl, aI, bn, B⟩; refine ⟨_, rfl, ?_⟩; have aJ := B.apart (Nat.lt_of_lt_of_le hlb aa.ch.size) d; have aK := B.apart H.lt U; have ab := aa.trans B; have aL := H.ch B.ch (fun h => U _ h rfl); refine qj B.ch iZ <| yK 18 (yC (qcV aI (gc l ((i : Nat) : Int)).sty X (by omega)) ?_); rintro _ aM ⟨ac, ad, ae, rfl, aN, bo, V⟩; refine ⟨_, rfl, ?_⟩; have bp := V.apart (Nat.lt_of_lt_of_le hlb ab.ch.size) aJ; have bq := V.apart aL.lt aK; have aO := ab.trans V; refine q9 <| yd [19] [] .z <| yDe (nS ?_); refine q7 <| yq 2 ?_; have P : (((k : Nat) : Int) - ((i : Nat) : Int) : Int).toNat = k - i := by omega
  have Q : (ws ++ qbO (k - i) (gc l ((i : Nat) : Int))) ++ qU (l.drop k) = qU l := by
   rw [← C, qjt (c := (gc l ((i : Nat) : Int))) (by omega) (by omega) J, show k - i = (k - i - 1) + 1 by omega, qcq K, List.append_assoc]
  have R : Own aM tU8 1 ac ad ae (u8s (xs ++ (ws ++ qbO (k - i) (gc l ((i : Nat) : Int))))) := by
   have h := aN; rw [qi7, P] at h; unfold qbO; simp only [List.append_assoc] at h ⊢; exact h
  refine yE (nB  (fun a ha => W (k, ws ++ qbO (k - i) (gc l ((i : Nat) : Int)), ac, ad, ae) _ ⟨by omega, Q, R, aO, by omega⟩ (by show ln - k < ln - i; omega) a (ha.kp [0, 1, 5])))
 refine qo (eS (qg (qd (nS ?_)))); refine yx 2 <| qe (yR1 (.slice (g.map at0) r s) ?_); rw [List.drop_eq_nil_of_le (by omega)] at C; have aP : ws = qU l := by rw [← C]; exact (List.append_nil _).symm
 rw [aP] at I; exact ⟨_, _, _, rfl, I, by omega, D⟩
def okAt (l : List Cel) (i : Nat) : Prop := ((gc l (i : Int)).rune = 0 → qQ l ((i : Int) - 1) = true) ∧ ((gc l (i : Int)).rune ≠ 0 → qin (gc l (i : Int)) = true ∧ (qaE (gc l (i : Int)).rune = true → qQ l (i : Int) = true))
theorem qiL {l : List Cel} {k : Nat} (h : ∀ i : Nat, i < k → okAt l i) (hb : okAt l k) : ∀ i : Nat, i < k + 1 → okAt l i := fun i hi => by
  rcases Nat.lt_or_ge i k with h' | h'
  · exact h i h'
  · obtain rfl : i = k := by omega
    exact hb
set_option maxHeartbeats 4000000 in
theorem qm9 (b n cap : Nat) (l : List Cel) (w : World) (hT : qa8 w) (hr : Rd w (some ⟨b, 0, none⟩) (qa6 l)) (hb : b < w.heap.size) (hln : l.length = n) (hnb : n ≤ 1000000) : Calls Tryz.prog 66 [.slice (some ⟨b, 0, none⟩) n cap].toArray w fun e w' => e = .returned (.bool (qbj l)) ∧ Ch (fun _ => False) w w' := by
 refine yA Tryz.func66 rfl <| yx 1 <| ys <| yx 3 <| q8 <| qT [0, 5, 6, 7] (f' := [(0, .slice (some ⟨b, 0, none⟩) n cap), (5, .slice (some ⟨b, 0, none⟩) n cap), (6, iX ((n : Nat) : Int)), (7, iX 0)]) <| qz (σ := Nat) (fun k => [(0, .slice (some ⟨b, 0, none⟩) n cap), (5, .slice (some ⟨b, 0, none⟩) n cap), (6, iX ((n : Nat) : Int)), (7, iX ((k : Nat) : Int))]) (fun k u => k ≤ n ∧ (∀ i : Nat, i < k → okAt l i) ∧ Ch (fun _ => False) w u) (fun k => n - k) 0 rfl ?_ ?_
 ·exact ⟨Nat.zero_le _, fun i hi => absurd hi (Nat.not_lt_zero i), Ch.refl _ _⟩
 intro k ae R af x; obtain ⟨hk, d, g⟩ := R; have r := zu (zm w) g iZ; have S := qh g hT id id; have f := Ch.rd g hr id; refine yx 1 <| ys <| yc (rL ((k : Nat) : Int) ((n : Nat) : Int)) (fun T => ?_) fun T => ?_
 ·refine yk <| ys <| q8 <| ysr <| yp 3 [] (.i ((k : Nat) : Int) (n) (.m (qcb (i := ((k : Nat) : Int)) f (by omega) (by omega)) (.m (qcc (i := ((k : Nat) : Int)) f (by omega) (by omega)) (.m (qbk (i := ((k : Nat) : Int)) f (by omega) (by omega)) (.m (qaL (i := ((k : Nat) : Int)) f (by omega) (by omega)) (.m (qcd (i := ((k : Nat) : Int)) f (by omega) (by omega)) (.m (qce (i := ((k : Nat) : Int)) f (by omega) (by omega)) (.e .z)))))))) <| yo (yN [rX 0, .bool false, .bool false, .bool false, iX 0, iX 0] 95 fun ag j G ah U s => ?_); have ai := zn G r; have aj := zn G g; have V := zu r s iZ; have W := zt g s eZ; have X := qh s S id id; have Y := Ch.rd s f id; refine yq 5 <| yo (yT [rX (gc l ((k : Nat) : Int)).rune, .bool (gc l ((k : Nat) : Int)).sty.bold, .bool (gc l ((k : Nat) : Int)).sty.under, .bool (gc l ((k : Nat) : Int)).sty.turned, iX (gc l ((k : Nat) : Int)).sty.fore, iX (gc l ((k : Nat) : Int)).sty.back] U fun ak y t => ?_); have A := zu V t (fun i hi (h : i = j) => by omega); have H := zt W t (fun i hi (h : i = j) => by omega); have I := qh t X (fun (h : qcs = j) => by have := qbB hT; omega) (fun (h : qb8 = j) => by have := qbB hT; omega); have J := Ch.rd t Y (fun (h : b = j) => by have := (Nat.lt_of_lt_of_le hb (zs r)); omega); refine ye <| q8 <| ysr <| yp 4 [] (.l (y.c 0) .z) <| ye <| yc (rE (gc l ((k : Nat) : Int)).rune 0) (fun B => ?_) fun B => ?_
  ·have Z := B; refine ysr <| yp 3 [] (.q6 (((k : Nat) : Int) - 1) .z) ?_; refine yo (yQ (qcf b n cap l (((k : Nat) : Int) - 1) _ I J (Nat.lt_of_lt_of_le hb (zs A)) hln (by omega) (by constructor <;> omega)) fun al K => ?_); have a0 := zu A K iZ; have a1 := zt H K eZ; refine yz 5 <| yc (rN (rY (qQ l (((k : Nat) : Int) - 1)))) (fun C => ?_) fun C => ?_
   ·have a2 := C; refine yx 1 <| qe (rB (rB (rS (qE (rB (rS (yR1 (.bool false) ?_))))))); refine ⟨zc ?_, Up.ch a0⟩; exact (Bool.eq_false_iff.2 fun h => by
     have o := wholeB_iff.1 h k (by omega); clear h d; simp [Z, a2] at o).symm
   have am := C; refine qr (nB (nB (nS ?_))); refine q7 <| yp 2 [] (.q6 (((k : Nat) : Int) + 1) .z) <| yE (fun a ha => x (k + 1) _ ⟨by omega, qiL d ⟨fun p => by simp_all, fun p => by simp_all⟩, a1⟩ (by show n - (k + 1) < n - k; omega) a (ha.kp [0, 5, 6, 7]))
  have L := B; refine ysr <| yp 1 [] (.a (y.cs 0 6) .z) <| yo (yQ (qj0 (gc l ((k : Nat) : Int)) _ ) fun an q => ?_); have M := zu A q iZ; have a3 := zt H q eZ; have N := qh q I id id; have a4 := Ch.rd q J id; have a5 := y.ch q id; refine yq 4 <| yw [25] (rN (rY (qin (gc l ((k : Nat) : Int))))) (fun D => ?_) fun D => ?_
  ·have a6 := D; refine yz 15 <| yct <| yx 1 <| qe (rB (rB (rS (qE (rB (rS (yR1 (.bool false) ?_))))))); refine ⟨zc ?_, Up.ch M⟩; exact (Bool.eq_false_iff.2 fun h => by
    have o := wholeB_iff.1 h k (by omega); clear h d; simp [L, a6] at o).symm
  have a7 := D; refine yp 6 [] (.l (a5.c 0) .z) <| yo (yQ (qbo (gc l ((k : Nat) : Int)).rune _ N.1) fun ao hq => ?_); have v := qbH hq; clear hq; have O := zu M v iZ; have P := zt a3 v eZ; have a8 := qh v N id id; have a9 := Ch.rd v a4 id; refine yq 8 <| yw [29] (rY (qaE (gc l ((k : Nat) : Int)).rune)) (fun E => ?_) fun E => ?_
  ·have aa := E; refine yq 10 ?_; refine yo (yQ (qcf b n cap l ((k : Nat) : Int) _ a8 a9 (Nat.lt_of_lt_of_le hb (zs O)) hln (by omega) (by constructor <;> omega)) fun ap Q => ?_); have ab := zu O Q iZ; have ac := zt P Q eZ; refine yz 15 <| yc (rN (rY (qQ l ((k : Nat) : Int)))) (fun F => ?_) fun F => ?_
   ·have ad := F; refine yx 1 <| qe (rB (rB (rS (qE (rB (rS (yR1 (.bool false) ?_))))))); refine ⟨zc ?_, Up.ch ab⟩; exact (Bool.eq_false_iff.2 fun h => by
     have o := wholeB_iff.1 h k (by omega); clear h d; simp [L, a7, aa, ad] at o).symm
   have aq := F; refine qr (nB (nB (nS ?_))); refine q7 <| yp 2 [] (.q6 (((k : Nat) : Int) + 1) .z) <| yE (fun a ha => x (k + 1) _ ⟨by omega, qiL d ⟨fun p => by simp_all, fun p => by simp_all⟩, ac⟩ (by show n - (k + 1) < n - k; omega) a (ha.kp [0, 5, 6, 7]))
  have ar := E; refine yz 15 <| ycf <| qr (nB (nB (nS ?_))); refine q7 <| yp 2 [] (.q6 (((k : Nat) : Int) + 1) .z) <| yE (fun a ha => x (k + 1) _ ⟨by omega, qiL d ⟨fun p => by simp_all, fun p => by simp_all⟩, P⟩ (by show n - (k + 1) < n - k; omega) a (ha.kp [0, 5, 6, 7]))
 have au : k = n := by omega
 refine qo (eS (qg (qd (nS ?_)))); refine yx 1 <| qe (yR1 (.bool true) ?_); refine ⟨zc ?_, Up.ch r⟩; exact (wholeB_iff.2 fun i hi => d i (by omega)).symm
theorem qma {w : World} {a : Option Addr} {n : Nat} {ro : List Row} {FB : Nat → Prop} (hz : a = none ∨ ∃ b off, a = some ⟨b, off, none⟩) (h : LinesAt w a n ro FB) (hn : 0 < n) : ∃ b off, a = some ⟨b, off, none⟩ := by
 rcases hz with rfl | hz
 ·have e := h.rd.1 rfl; have := h.len; rw [List.map_eq_nil_iff] at e; subst e; simp at this; omega
 exact hz
theorem qeh {w : World} {b off : Nat} {rows : List Row} (h : Rd w (some ⟨b, off, none⟩) (rows.map Row.val)) {k : Nat} {x : Row} (hx : rows[k]? = some x) : w.cell? ⟨b, off + ((k : Nat) : Int).toNat * 1, none⟩ = some x.val := by
 rw [Int.toNat_natCast, Nat.mul_one]; exact qbG h k _ (by rw [List.getElem?_map, hx]; rfl)
theorem qi9 (l : List Cel) (c : Cel) : qa6 l ++ c.vals = qa6 (l ++ [c]) := by rw [qbp, qa6, qa6]; simp
theorem qmb {l : List Cel} {n : Nat} (hn : l.length = n) (h : 0 < n) : l.getLast? = some (gc l ((n : Int) - 1)) := by
 rw [List.getLast?_eq_getElem?, List.getElem?_eq_getElem (by omega), show ((n : Int) - 1) = ((l.length - 1 : Nat) : Int) by omega, qcB (by omega)]
theorem qdS {w : World} {e : TypeId} {sz : Nat} {o : Option Nat} {n cap : Nat} {xs : List Value} (h : Own w e sz o n cap xs) (hn : 0 < n) : ∃ b, o = some b := by
 cases o with
 | none => have := (h.2.2.2.1 rfl).1; omega
 | some b => exact ⟨b, rfl⟩
theorem qiM {W : Int} {s0 s s' : RS} {f : Nat} {l : List Cel} (h : qbP f W l s = qbP W.toNat W [] s0) (e : qbP f W l s = (none, s')) : qdm W s0 = ([], false, s') := by
 unfold qdm; rw [← h, e]
theorem qh1 {W : Int} {s0 s s' : RS} {f : Nat} {l o : List Cel} (h : qbP f W l s = qbP W.toNat W [] s0) (e : qbP f W l s = (some o, s')) : qdm W s0 = if qbj o = true then (o, true, s') else ([], false, s') := by
 unfold qdm; rw [← h, e]
set_option maxHeartbeats 4000000 in
theorem qmc (w : World) : Calls Tryz.prog 66 [nX].toArray w fun e w' => e = .returned (.bool (qbj [])) ∧ Ch (fun _ => False) w w' := by
 refine yA Tryz.func66 rfl <| yx 1 <| ys <| yx 3 <| q8 <| yU 1 (yU1 ?_); refine yx 1 <| ys <| ycf <| qo (eS (qg (qd (nS ?_)))); refine yx 1 <| qe (yR1 (.bool true) ?_); exact ⟨rfl, Up.ch (zm w)⟩
theorem qju {α : Type} {b : Bool} {x y : α} (h : b = false) : (if b = true then x else y) = y := by rw [h]; rfl
set_option maxHeartbeats 4000000 in
theorem qia {rv D : Nat} {s0 s1 : RS} {W : Int} {l : List Cel} {ok : Bool} {w : World} (hA : RdrAt w rv D s0) (hT : qa8 w) (h7 : gTop ≤ rv) (hW : 0 ≤ W ∧ W ≤ 1000) (hL : qdm W s0 = (l, ok, s1)) : Calls Tryz.prog 54 [pX rv, iX W].toArray w fun e w' =>
 ∃ o n cap, e = .returned (.tuple #[.slice (o.map at0) n cap, .bool ok]) ∧ l.length = n ∧ Own w' qcH 6 o n cap (qa6 l) ∧ (∀ b, o = some b → w.heap.size ≤ b) ∧ RdrAt w' rv D s1 ∧ Ch (· = rv) w w' := by
 refine yA Tryz.func54 rfl <| yx 2 <| yx 1 <| ys <| q8 <| qT [0, 1, 6] (f' := [(0, pX rv), (1, iX W), (6, nX)]) <| qz (σ := List Cel × RS × Option Nat × Nat × Nat) (fun ⟨l, s, o, n, cap⟩ => [(0, pX rv), (1, iX W), (6, .slice (o.map at0) n cap)]) (fun ⟨l, s, o, n, cap⟩ u => (∃ f, W.toNat - l.length ≤ f ∧ qbP f W l s = qbP W.toNat W [] s0) ∧ l.length = n ∧ (n : Int) ≤ W ∧ Own u qcH 6 o n cap (qa6 l) ∧ (∀ b, o = some b → w.heap.size ≤ b) ∧ RdrAt u rv D s ∧ Ch (· = rv) w u) (fun ⟨l, s, o, n, cap⟩ => W.toNat - l.length) ([], s0, none, 0, 0) rfl ?_ ?_
 ·exact ⟨⟨W.toNat, by simp, rfl⟩, rfl, by omega, Own.nil _ _ _, (fun b e => by cases e), hA, Ch.refl _ _⟩
 intro p c9 aL ca ak; obtain ⟨l, s, o, n, cap⟩ := p; obtain ⟨⟨f, hf, A⟩, C, cb, hO, G, a7, T⟩ := aL; have cc : n ≤ cap := hO.2.1; refine ys <| yx 4 <| yc (rL ((n : Nat) : Int) W) (fun aM => ?_) fun aM => ?_
 ·refine yk <| q8 <| ysr <| yp 6 [] (.q6 (W - ((n : Nat) : Int)) (.q6 ((W - ((n : Nat) : Int)) + 1) .z)) ?_; obtain ⟨k, al, H⟩ : ∃ x s', qP (((W - ((n : Nat) : Int)) + 1)) s = (x, s') := ⟨_, _, rfl⟩
  have am := qa7 (lim := ((W - ((n : Nat) : Int)) + 1)) (s := s); rw [H] at am; dsimp only at am; refine yo (yQ (qZ (lim := ((W - ((n : Nat) : Int)) + 1)) a7 H (by omega)) ?_); rintro aN ⟨aO, an⟩; have aP : Ch (· = rv) w aN := zt T an iZ; have aQ := hO.ch an (fun b e (h : b = rv) => by have := G b e; have := hA.lt; omega); refine yq 8 ?_; obtain ⟨d, aR, I⟩ : ∃ x s', qP (1114112) al = (x, s') := ⟨_, _, rfl⟩
  have ao := qa7 (lim := 1114112) (s := al); rw [I] at ao; dsimp only at ao; refine yo (yQ (qZ (lim := 1114112) aO I (by omega)) ?_); rintro aS ⟨aT, ap⟩; have aq : Ch (· = rv) w aS := zt aP ap iZ; have ar := aQ.ch ap (fun b e (h : b = rv) => by have := G b e; have := hA.lt; omega); refine yp 11 [] (.q3 d .z) <| yo (yN [rX 0, .bool false, .bool false, .bool false, iX 0, iX 0] 95 fun aU r aV cd aW a8 => ?_); have U := zv (b := r) ar; have aX : Ch (· = rv) w aU := zt aq a8 eZ; have J := zn aV aq; have aY := ar.ch a8 iZ; have aZ := aT.ch a8 id id; refine yq 13 <| yo (yT [rX d, .bool false, .bool false, .bool false, iX 0, iX 0] aW fun b0 b1 a9 => ?_); have b2 : Ch (· = rv) w b0 := zt aX a9 (fun i hi (h : i = r) => by have := J; omega); have b3 := aY.ch a9 (fun b e (h : b = r) => U b e h); have b4 := aZ.ch a9 (fun (h : rv = r) => by have := J; have := hA.lt; omega) (fun (h : D = r) => by have := J; have := hA.dlt; omega); refine ye <| ysr <| yq 1 ?_; obtain ⟨c, b5, V, M⟩ : ∃ t ok s', qft aR = (t, ok, s') := ⟨_, _, _, rfl⟩
  refine yo (yQ (qdR b4 M) ?_); rintro b6 ⟨b7, aa⟩; have au : Ch (· = rv) w b6 := zt b2 aa iZ; have av := b3.ch aa (fun b e (h : b = rv) => by have := G b e; have := hA.lt; omega); have aw := b1.ch aa (fun (h : r = rv) => by have := J; have := hA.lt; omega); refine yq 5 <| yo (yN [.bool false, .bool false, .bool false, iX 0, iX 0] 44 fun b8 N b9 ce ba X => ?_); have bb := zv (b := N) av; have bc : Ch (· = rv) w b8 := zt au X eZ; have ab := zn b9 au; have bd := av.ch X iZ; have bf := aw.ch X id; have bg := b7.ch X id id; refine yo (yT [.bool c.bold, .bool c.under, .bool c.turned, iX c.fore, iX c.back] ba fun bh bi Y => ?_); have bj : Ch (· = rv) w bh := zt bc Y (fun i hi (h : i = N) => by have := ab; omega); have bk := bd.ch Y (fun b e (h : b = N) => bb b e h); have bl := bf.ch Y (fun (h : r = N) => by have := aw.lt; omega); have bm := bg.ch Y (fun (h : rv = N) => by have := ab; have := hA.lt; omega) (fun (h : D = N) => by have := ab; have := hA.dlt; omega); refine yz 8 <| ysr <| yp 2 [] (.a (bi.cs 0 5) .z) <| yo (yT [rX d, .bool c.bold, .bool c.under, .bool c.turned, iX c.fore, iX c.back] bl fun bn bo ac => ?_); have bp : Ch (· = rv) w bn := zt bj ac (fun i hi (h : i = r) => by have := J; omega); have bq := bk.ch ac (fun b e (h : b = r) => U b e h); have br := bm.ch ac (fun (h : rv = r) => by have := J; have := hA.lt; omega) (fun (h : D = r) => by have := J; have := hA.dlt; omega); refine ye <| ys <| ys <| yD [] fun bs cf Z => ?_; have O : Ch (· = rv) w bs := zt bp Z eZ
  have E := bq.ch Z iZ; have P := br.ch Z id id; have ad := bo.ch Z id; refine yd (uL 0 3) [] .z <| yv [35] (rN (rY b5)) (fun a0 => ?_) fun a0 => ?_
  ·refine yd (uL 3 18) [] .z <| yDe (nS ?_); refine yct <| yx 2 <| qe (rS (rB (qE (rB (rS (yR2 [nX, .bool false] .z ?_)))))); have hS := qcv (W := W) (out := l) (by rw [C]; exact H) I M; rw [if_pos (.inl a0)] at hS; have hR := qiM A (qfa (by omega) hf hS); rw [hL] at hR; simp only [Prod.mk.injEq] at hR; obtain ⟨rfl, rfl, rfl⟩ := hR; exact ⟨none, 0, 0, rfl, rfl, Own.nil _ _ _, (fun b e => by cases e), P, O⟩
  refine yd (uL 3 4) [] .z <| yv [39] (rE k 0) (fun a1 => ?_) fun a1 => ?_
  ·refine yd (uL 7 14) [] .z <| yDe (nS ?_); refine yct <| yx 2 <| qe (rS (rB (qE (rB (rS (yR2 [nX, .bool false] .z ?_)))))); have hS := qcv (W := W) (out := l) (by rw [C]; exact H) I M; rw [if_pos (.inr (.inl a1))] at hS; have hR := qiM A (qfa (by omega) hf hS); rw [hL] at hR; simp only [Prod.mk.injEq] at hR; obtain ⟨rfl, rfl, rfl⟩ := hR; exact ⟨none, 0, 0, rfl, rfl, Own.nil _ _ _, (fun b e => by cases e), P, O⟩
  refine yd (uL 7 4) [] .z <| yv [43] (rL 0 ((n : Nat) : Int)) (fun bt => ?_) fun bt => ?_
  ·obtain ⟨ob, rfl⟩ := qdS E (by omega); refine yd (uL 11 10) [] (.q6 (((n : Nat) : Int) - 1) (.i (((n : Nat) : Int) - 1) (n) (.m (qcb (i := (((n : Nat) : Int) - 1)) (Own.rd E) (by omega) (by omega)) (.m (qcc (i := (((n : Nat) : Int) - 1)) (Own.rd E) (by omega) (by omega)) (.m (qbk (i := (((n : Nat) : Int) - 1)) (Own.rd E) (by omega) (by omega)) (.m (qaL (i := (((n : Nat) : Int) - 1)) (Own.rd E) (by omega) (by omega)) (.m (qcd (i := (((n : Nat) : Int) - 1)) (Own.rd E) (by omega) (by omega)) (.m (qce (i := (((n : Nat) : Int) - 1)) (Own.rd E) (by omega) (by omega)) (.e (.a (ad.cs 0 6) .z)))))))))) <| yDe (nS ?_); refine yc (rY ((((gc l (((n : Nat) : Int) - 1)).rune : Int) == d) && ((((gc l (((n : Nat) : Int) - 1)).sty.bold == c.bold) && (((gc l (((n : Nat) : Int) - 1)).sty.under == c.under) && (((gc l (((n : Nat) : Int) - 1)).sty.turned == c.turned) && ((((gc l (((n : Nat) : Int) - 1)).sty.fore : Int) == c.fore) && ((((gc l (((n : Nat) : Int) - 1)).sty.back : Int) == c.back) && true))))) && true))) (fun ae => ?_) fun ae => ?_
   ·have a2 := (qe9 (gc l (((n : Nat) : Int) - 1)) (Cel.mk d c)).symm.trans ae; refine yx 2 <| qe (rS (rB (qE (rB (rS (yR2 [nX, .bool false] .z ?_)))))); have hS := qcv (W := W) (out := l) (by rw [C]; exact H) I M; rw [if_pos (.inr (.inr (by rw [qmb C (by omega), eq_of_beq a2])))] at hS; have hR := qiM A (qfa (by omega) hf hS); rw [hL] at hR; simp only [Prod.mk.injEq] at hR; obtain ⟨rfl, rfl, rfl⟩ := hR; exact ⟨none, 0, 0, rfl, rfl, Own.nil _ _ _, (fun b e => by cases e), P, O⟩
   have a2 := (qe9 (gc l (((n : Nat) : Int) - 1)) (Cel.mk d c)).symm.trans ae; refine yk <| yx 2 <| q8 ?_; have hS := qcv (W := W) (out := l) (by rw [C]; exact H) I M; rw [if_neg (by rintro (h | h | h); exact absurd (a0.symm.trans h) (by decide); exact a1 h; exact absurd h (by rw [qmb C (by omega)]; intro e; rw [zi e] at a2; simp at a2))] at hS; refine qT [0, 1, 6, 8, 54, 55] (f' := [(0, pX rv), (1, iX W), (6, .slice (some ⟨ob, 0, none⟩) n cap), (8, pX r), (54, iX k), (55, iX 0)]) <| qz (σ := Nat × Option Nat × Nat × Nat) (fun ⟨j, v, g, y⟩ => [(0, pX rv), (1, iX W), (6, .slice (v.map at0) g y), (8, pX r), (54, iX k), (55, iX ((j : Nat) : Int))]) (fun ⟨j, v, g, y⟩ u => (j : Int) ≤ k ∧ Own u qcH 6 v g y (qa6 (l ++ List.replicate j (Cel.mk d c))) ∧ g = n + j ∧ (∀ b, v = some b → w.heap.size ≤ b) ∧ (∀ b, v = some b → ¬ b = r) ∧ Blk u r [rX d, .bool c.bold, .bool c.under, .bool c.turned, iX c.fore, iX c.back] 95 ∧ RdrAt u rv D V ∧ Ch (· = rv) w u) (fun ⟨j, v, g, y⟩ => (k : Int).toNat - j) (0, (some ob), n, cap) rfl ?_ ?_
   ·exact ⟨by omega, by rw [List.replicate_zero, List.append_nil]; exact E, rfl, G, U, ad, P, O⟩
   intro q cg bu ci bv; obtain ⟨j, v, g, y⟩ := q; obtain ⟨bw, F, bx, B, Q, R, S, K⟩ := bu; have bz : g ≤ y := F.2.1; refine yx 1 <| ys <| yc (rL ((j : Nat) : Int) k) (fun af => ?_) fun af => ?_
   ·refine yk <| ys <| q8 <| q7 <| yp 2 [] (.a (R.cs 0 6) .z) <| yo (yB [rX d, .bool c.bold, .bool c.under, .bool c.turned, iX c.fore, iX c.back] 95 1 fun bA ax bB cj bC a3 => ?_); have ck := zv (b := ax) F; have ay : Ch (· = rv) w bA := zt K a3 eZ; have cl := zn bB K; have bD := F.ch a3 iZ; have bE := S.ch a3 id id; have az := R.ch a3 id; refine yo (qai 95 6 32 v g y (qa6 (l ++ List.replicate j (Cel.mk d c))) (some ⟨ax, 0, none⟩) 1 1 [rX d, .bool c.bold, .bool c.under, .bool c.turned, iX c.fore, iX c.back] (some 60) (g + 1) rfl (qa6 ((l ++ List.replicate j (Cel.mk d c)) ++ [(Cel.mk d c)])) (qi9 (l ++ List.replicate j (Cel.mk d c)) (Cel.mk d c)) (by kernel_rfl) bD (Rd.all bC) rfl rfl (fun h => by cases h) (by constructor <;> first | omega | (simp only [maxLen]; omega)) ?_); intro bF aA bG bH aB cm a4; have bI : ∀ b, aA = some b → w.heap.size ≤ b := fun b e => by
     rcases aB with h | ⟨g', h, h'⟩
     ·exact B b (h ▸ e)
     rw [h] at e; have := zi e; have := zs ay; omega
    have bJ := App.of aB a4; have bK := bJ.apart az.lt Q; have bL : Ch (· = rv) w bF := zt ay a4 (fun i hi h => by have := B _ h; omega); have bM := bE.ch a4 (fun h => by have := B _ h; have := hA.lt; omega) (fun h => by have := B _ h; have := hA.dlt; omega); have bN := az.ch a4 (fun h => Q _ h rfl); refine yq 5 <| yE (nB (nS ?_)); refine q7 <| yp 2 [] (.q6 (((j : Nat) : Int) + 1) .z) <| yE (fun a ha => bv (j + 1, aA, (g + 1), bG) _ ⟨by omega, by rw [List.replicate_succ', ← List.append_assoc]; exact bH, by omega, bI, bK, bN, bM, bL⟩ (by show (k : Int).toNat - (j + 1) < (k : Int).toNat - j; omega) a (ha.kp [0, 1, 6, 8, 54, 55]))
   have ag : j = (k : Int).toNat := by omega
   subst ag; obtain ⟨f', bO, ah⟩ := qjn (by omega) hf hS; rw [ah] at A; refine qo (eS (qg (qd (nB  (fun a ha => ak (l ++ List.replicate (k : Int).toNat (Cel.mk d c), V, v, g, y) _ ⟨⟨f', by rw [List.length_append, List.length_replicate]; omega, A⟩, by rw [List.length_append, List.length_replicate]; omega, by omega, F, B, S, K⟩ (by show W.toNat - (l ++ List.replicate (k : Int).toNat (Cel.mk d c)).length < W.toNat - l.length; rw [List.length_append, List.length_replicate]; omega) a (ha.kp [0, 1, 6]))))))
  refine yd (uL 11 10) [] .z <| yDe (nS ?_); refine ycf <| yk <| yx 2 <| q8 ?_; have hS := qcv (W := W) (out := l) (by rw [C]; exact H) I M; rw [if_neg (by rintro (h | h | h); exact absurd (a0.symm.trans h) (by decide); exact a1 h; exact absurd h (by rw [List.eq_nil_of_length_eq_zero (show l.length = 0 by omega)]; intro e; cases e))] at hS; refine qT [0, 1, 6, 8, 54, 55] (f' := [(0, pX rv), (1, iX W), (6, .slice (o.map at0) n cap), (8, pX r), (54, iX k), (55, iX 0)]) <| qz (σ := Nat × Option Nat × Nat × Nat) (fun ⟨j, v, g, y⟩ => [(0, pX rv), (1, iX W), (6, .slice (v.map at0) g y), (8, pX r), (54, iX k), (55, iX ((j : Nat) : Int))]) (fun ⟨j, v, g, y⟩ u => (j : Int) ≤ k ∧ Own u qcH 6 v g y (qa6 (l ++ List.replicate j (Cel.mk d c))) ∧ g = n + j ∧ (∀ b, v = some b → w.heap.size ≤ b) ∧ (∀ b, v = some b → ¬ b = r) ∧ Blk u r [rX d, .bool c.bold, .bool c.under, .bool c.turned, iX c.fore, iX c.back] 95 ∧ RdrAt u rv D V ∧ Ch (· = rv) w u) (fun ⟨j, v, g, y⟩ => (k : Int).toNat - j) (0, o, n, cap) rfl ?_ ?_
  ·exact ⟨by omega, by rw [List.replicate_zero, List.append_nil]; exact E, rfl, G, U, ad, P, O⟩
  intro q cn bP co bQ; obtain ⟨j, v, g, y⟩ := q; obtain ⟨bw, F, bx, B, Q, R, S, K⟩ := bP; have bz : g ≤ y := F.2.1; refine yx 1 <| ys <| yc (rL ((j : Nat) : Int) k) (fun af => ?_) fun af => ?_
  ·refine yk <| ys <| q8 <| q7 <| yp 2 [] (.a (R.cs 0 6) .z) <| yo (yB [rX d, .bool c.bold, .bool c.under, .bool c.turned, iX c.fore, iX c.back] 95 1 fun bR aC bS cp bT a5 => ?_); have cq := zv (b := aC) F; have aD : Ch (· = rv) w bR := zt K a5 eZ; have cr := zn bS K; have bU := F.ch a5 iZ; have bV := S.ch a5 id id; have aE := R.ch a5 id; refine yo (qai 95 6 32 v g y (qa6 (l ++ List.replicate j (Cel.mk d c))) (some ⟨aC, 0, none⟩) 1 1 [rX d, .bool c.bold, .bool c.under, .bool c.turned, iX c.fore, iX c.back] (some 60) (g + 1) rfl (qa6 ((l ++ List.replicate j (Cel.mk d c)) ++ [(Cel.mk d c)])) (qi9 (l ++ List.replicate j (Cel.mk d c)) (Cel.mk d c)) (by kernel_rfl) bU (Rd.all bT) rfl rfl (fun h => by cases h) (by constructor <;> first | omega | (simp only [maxLen]; omega)) ?_); intro bW aF bX bY aG ct a6; have bZ : ∀ b, aF = some b → w.heap.size ≤ b := fun b e => by
    rcases aG with h | ⟨g', h, h'⟩
    ·exact B b (h ▸ e)
    rw [h] at e; have := zi e; have := zs aD; omega
   have c0 := App.of aG a6; have c1 := c0.apart aE.lt Q; have c2 : Ch (· = rv) w bW := zt aD a6 (fun i hi h => by have := B _ h; omega); have c3 := bV.ch a6 (fun h => by have := B _ h; have := hA.lt; omega) (fun h => by have := B _ h; have := hA.dlt; omega); have c4 := aE.ch a6 (fun h => Q _ h rfl); refine yq 5 <| yE (nB (nS ?_)); refine q7 <| yp 2 [] (.q6 (((j : Nat) : Int) + 1) .z) <| yE (fun a ha => bQ (j + 1, aF, (g + 1), bX) _ ⟨by omega, by rw [List.replicate_succ', ← List.append_assoc]; exact bY, by omega, bZ, c1, c4, c3, c2⟩ (by show (k : Int).toNat - (j + 1) < (k : Int).toNat - j; omega) a (ha.kp [0, 1, 6, 8, 54, 55]))
  have ag : j = (k : Int).toNat := by omega
  subst ag; obtain ⟨f', bO, ah⟩ := qjn (by omega) hf hS; rw [ah] at A; refine qo (eS (qg (qd (nB  (fun a ha => ak (l ++ List.replicate (k : Int).toNat (Cel.mk d c), V, v, g, y) _ ⟨⟨f', by rw [List.length_append, List.length_replicate]; omega, A⟩, by rw [List.length_append, List.length_replicate]; omega, by omega, F, B, S, K⟩ (by show W.toNat - (l ++ List.replicate (k : Int).toNat (Cel.mk d c)).length < W.toNat - l.length; rw [List.length_append, List.length_replicate]; omega) a (ha.kp [0, 1, 6]))))))
 rcases o with _ | ob
 ·obtain ⟨rfl, rfl⟩ := hO.2.2.2.1 rfl; obtain rfl := List.eq_nil_of_length_eq_zero C; refine qo (eS (qg (qd (nS ?_)))); refine ys <| ysr <| yq 1 <| yo (yQ (qmc _) fun c5 ai => ?_); have aH : Ch (· = rv) w c5 := zt T ai eZ; have aI := a7.ch ai id id; have c6 := hO.ch ai iZ; refine yz 3 <| yc (rN (rY (qbj []))) (fun L => ?_) fun L => ?_
  ·refine yx 2 <| qe (rS (yR2 [nX, .bool false] .z ?_)); have hR := qh1 A (qda (by first | omega | (simp; omega))); rw [hL] at hR; rw [qju L] at hR; simp only [Prod.mk.injEq] at hR; obtain ⟨rfl, rfl, rfl⟩ := hR; exact ⟨none, 0, 0, rfl, rfl, Own.nil _ _ _, (fun b e => by cases e), aI, aH⟩
  refine yk <| yx 3 <| qe (yR2 [nX, .bool true] .z ?_); have hR := qh1 A (qda (by first | omega | (simp; omega))); rw [hL] at hR; rw [if_pos L] at hR; simp only [Prod.mk.injEq] at hR; obtain ⟨rfl, rfl, rfl⟩ := hR; exact ⟨none, _, _, rfl, rfl, c6, G, aI, aH⟩
 refine qo (eS (qg (qd (nS ?_)))); refine ys <| ysr <| yq 1 <| yo (yQ (qm9 ob n cap l _ (qh T hT (fun (h : qcs = rv) => by have := g_lt; omega) (fun (h : qb8 = rv) => by have := g_lt; omega)) (Own.rd hO) hO.lt C (by omega)) fun c7 aj => ?_); have aJ : Ch (· = rv) w c7 := zt T aj eZ; have aK := a7.ch aj id id; have c8 := hO.ch aj iZ; refine yz 3 <| yc (rN (rY (qbj l))) (fun L => ?_) fun L => ?_
 ·refine yx 2 <| qe (rS (yR2 [nX, .bool false] .z ?_)); have hR := qh1 A (qda (by first | omega | (simp; omega))); rw [hL] at hR; rw [qju L] at hR; simp only [Prod.mk.injEq] at hR; obtain ⟨rfl, rfl, rfl⟩ := hR; exact ⟨none, 0, 0, rfl, rfl, Own.nil _ _ _, (fun b e => by cases e), aK, aJ⟩
 refine yk <| yx 3 <| qe (yR2 [.slice (some ⟨ob, 0, none⟩) n cap, .bool true] .z ?_); have hR := qh1 A (qda (by first | omega | (simp; omega))); rw [hL] at hR; rw [if_pos L] at hR; simp only [Prod.mk.injEq] at hR; obtain ⟨rfl, rfl, rfl⟩ := hR; exact ⟨(some ob), _, _, rfl, C, c8, G, aK, aJ⟩
theorem qh2 {w : World} {b : Nat} {x : ByteArray} (h : Rd w (some ⟨b, 0, none⟩) (qeu x)) {i : Nat} (hi : i < x.size) : w.cell? ⟨b, 0 + ((i : Nat) : Int).toNat * 1, none⟩ = some (uX (bt x (i : Int))) := by
 rw [Int.toNat_natCast, Nat.mul_one]; exact qbG h i _ (bytV_get x hi)
theorem qib {n : Nat} {p : Nat → Bool} (h : ∀ i, i < n → p i = true) : (List.range n).all p = true := List.all_eq_true.2 fun i hi => h i (List.mem_range.1 hi)
theorem qfi {n k : Nat} {p : Nat → Bool} (hk : k < n) (h : p k = false) : (List.range n).all p = false := Bool.eq_false_iff.2 fun e => by
  rw [List.all_eq_true.1 e k (List.mem_range.2 hk)] at h; cases h
theorem qjv {lo : Nat} {f : Int → Bool} {m : ByteArray} (h1 : ¬ (m.size : Int) < lo) (h2 : ¬ 2 < (m.size : Int)) (h : ∀ i : Nat, i < m.size → f (bt m (i : Int)) = true) : true = qb4 lo f m := by
 unfold qb4; rw [qib h, decide_eq_true (show lo ≤ m.size by omega), decide_eq_true (show m.size ≤ 2 by omega)]; rfl
theorem qmd {lo : Nat} {f : Int → Bool} {m : ByteArray} (h1 : (m.size : Int) < lo) : false = qb4 lo f m := by
 unfold qb4; rw [decide_eq_false (show ¬ lo ≤ m.size by omega)]; rfl
theorem qic {lo : Nat} {f : Int → Bool} {m : ByteArray} (h2 : 2 < (m.size : Int)) : false = qb4 lo f m := by
 unfold qb4; rw [decide_eq_false (show ¬ m.size ≤ 2 by omega), Bool.and_false]; rfl
theorem qid {lo : Nat} {f : Int → Bool} {m : ByteArray} {k : Nat} (hk : k < m.size) (h : f (bt m (k : Int)) = false) : false = qb4 lo f m := by
 unfold qb4; rw [qfi hk h, Bool.and_false]
theorem textB_t {x : ByteArray} (h : ∀ i : Nat, i < x.size → decide (32 ≤ bt x (i : Int)) = true) : decide ((x.size : Int) ≤ 40) = qef x := by
 unfold qef; rw [qib h, Bool.true_and]; exact decide_eq_decide.2 (by omega)
theorem textB_at {x : ByteArray} {k : Nat} (hk : k < x.size) (h : bt x (k : Int) < 32) : false = qef x := by
 unfold qef; rw [qfi hk (decide_eq_false (by omega))]; rfl
theorem numsB_t {l : List Int} (h : ∀ i : Nat, i < l.length → 0 ≤ l.getD i 0 ∧ l.getD i 0 ≤ 9999) : decide ((l.length : Int) ≤ 8) = qex l := by
 unfold qex; have : l.all (fun n => decide (0 ≤ n) && decide (n ≤ 9999)) = true := List.all_eq_true.2 fun x hx => by
  obtain ⟨i, hi, rfl⟩ := List.getElem_of_mem hx; have := h i hi; simp only [List.getD, List.getElem?_eq_getElem hi, Option.getD_some] at this; simp [this.1, this.2]
 rw [this, Bool.true_and]; exact decide_eq_decide.2 (by omega)
theorem qjw {l : List Int} {k : Nat} (hk : k < l.length) (h : ¬ (0 ≤ l.getD k 0 ∧ l.getD k 0 ≤ 9999)) : false = qex l := by
 unfold qex; have : l.all (fun n => decide (0 ≤ n) && decide (n ≤ 9999)) = false := Bool.eq_false_iff.2 fun e => by
  have := List.all_eq_true.1 e _ (qdQ hk); simp only [Bool.and_eq_true, decide_eq_true_eq] at this; exact h this
 rw [this]; rfl
theorem qdo {w : World} {b o : Nat} {l : List Int} (h : Rd w (some ⟨b, o, none⟩) (l.map (Value.int .i64))) {k : Nat} (hk : k < l.length) : w.cell? ⟨b, o + ((k : Nat) : Int).toNat * 1, none⟩ = some (iX (l.getD k 0)) := by
 rw [Int.toNat_natCast, Nat.mul_one]; refine qbG h k _ ?_; rw [List.getElem?_map, List.getElem?_eq_getElem hk]; simp [List.getD, List.getElem?_eq_getElem hk]
set_option maxHeartbeats 4000000 in
theorem qme (c : Int) (w : World) : Calls Tryz.prog 69 [uX c].toArray w fun e w' => e = .returned (.bool (qiG c)) ∧ Ch (fun _ => False) w w' := by
 refine yA Tryz.func69 rfl <| yx 1 <| ysr <| yq 3 <| yw [5] (rM 32 c) (fun a => ?_) fun a => ?_
 ·refine yz 7 <| qe (yR1 (.bool (decide (c < 48))) ?_); refine ⟨?_, Up.ch (zm w)⟩; refine zc ?_; rw [Bool.eq_iff_iff]; simp only [qiG, Bool.and_eq_true, decide_eq_true_eq, Bool.false_eq_true, true_iff, false_iff, iff_true, iff_false, not_and]; omega
 refine yz 7 <| qe (yR1 (.bool false) ?_); refine ⟨?_, Up.ch (zm w)⟩; refine zc ?_; rw [Bool.eq_iff_iff]; simp only [qiG, Bool.and_eq_true, decide_eq_true_eq, Bool.false_eq_true, true_iff, false_iff, iff_true, iff_false, not_and]; omega
set_option maxHeartbeats 4000000 in
theorem qmf (c : Int) (w : World) : Calls Tryz.prog 70 [uX c].toArray w fun e w' => e = .returned (.bool (qbE c)) ∧ Ch (fun _ => False) w w' := by
 refine yA Tryz.func70 rfl <| yx 1 <| ysr <| yq 1 <| yo (yQ (qme (c) _) fun g f => ?_); have a := zu (zm w) f iZ; refine yq 3 <| yw [5] (rY (qiG (c))) (fun b => ?_) fun b => ?_
 ·have h := b; refine yz 11 <| qe (yR1 (.bool true) ?_); refine ⟨zc ?_, Up.ch a⟩; unfold qbE
  first | (simp [*]; done) | (simp [*]; omega)
 have i := b; refine yq 6 <| yw [8] (rM 60 c) (fun d => ?_) fun d => ?_
 ·have j := d; refine yz 11 <| qe (yR1 (.bool (decide (c ≤ 63))) ?_); refine ⟨zc ?_, Up.ch a⟩; unfold qbE
  first | (simp [*]; done) | (simp [*]; omega)
 have k := d; refine yz 11 <| qe (yR1 (.bool false) ?_); refine ⟨zc ?_, Up.ch a⟩; unfold qbE
 first | (simp [*]; done) | (simp [*]; omega)
set_option maxHeartbeats 4000000 in
theorem qg9 (p : PS) (pa : Option Addr) (pn pc : Nat) (w : World) : Calls Tryz.prog 68 [.agg #[iX p.state, uX p.utf.b0, uX p.utf.b1, uX p.utf.b2, iX p.utf.n, .string p.marks, .slice pa pn pc, .string p.text, iX p.within], iX 1, iX 2, .func (.func 69) #[] #[]].toArray w fun e w' => e = .returned (.bool (qb4 1 qiG p.marks)) ∧ Ch (fun _ => False) w w' := by
 refine yA Tryz.func68 rfl <| ysr <| yo (yN [iX p.state, uX p.utf.b0, uX p.utf.b1, uX p.utf.b2, iX p.utf.n, .string p.marks, .slice pa pn pc, .string p.text, iX p.within] 55 fun N O B P d C => ?_); have Q := zn B (zm w); have b := zu (zm w) C iZ; refine yz 2 <| ys <| ysr <| yp 6 [] (.l (d.c 5) .z) <| yw [16] (rL ((p.marks).size : Int) 1) (fun f => ?_) fun f => ?_
 ·refine yz 12 <| yct <| yx 1 <| qe (rS (yR1 (.bool false) ?_)); exact ⟨congrArg Ending.returned (congrArg Value.bool (qmd f)), Up.ch b⟩
 refine yp 12 [] (.l (d.c 5) .z) <| ye <| yc (rL 2 ((p.marks).size : Int)) (fun g => ?_) fun g => ?_
 ·refine yx 1 <| qe (rS (yR1 (.bool false) ?_)); exact ⟨congrArg Ending.returned (congrArg Value.bool (qic g)), Up.ch b⟩
 refine yk <| ys <| ysr <| yp 2 [] (.l (d.c 5) .z) <| yo (qff p.marks (some 25) (by kernel_rfl) ?_); intro D j s E R F G; have S := zn E b; have H := zu b G iZ; refine yz 5 <| q8 <| qT [3, 25, 26, 27] (f' := [(3, .func (.func 69) #[] #[]), (25, .slice (some ⟨j, 0, none⟩) (p.marks).size s), (26, iX (((p.marks).size : Nat) : Int)), (27, iX 0)]) <| qz (σ := Nat) (fun k => [(3, .func (.func 69) #[] #[]), (25, .slice (some ⟨j, 0, none⟩) (p.marks).size s), (26, iX (((p.marks).size : Nat) : Int)), (27, iX ((k : Nat) : Int))]) (fun k u => k ≤ (p.marks).size ∧ (∀ i : Nat, i < k → qiG (bt p.marks (i : Int)) = true) ∧ Rd u (some ⟨j, 0, none⟩) (qeu p.marks) ∧ Ch (fun _ => False) D u) (fun k => (p.marks).size - k) 0 rfl ?_ ?_
 ·exact ⟨Nat.zero_le _, fun i hi => absurd hi (Nat.not_lt_zero i), F, Ch.refl _ _⟩
 intro k T I U J; obtain ⟨hk, t, x, y⟩ := I; have A := zu H y iZ; refine yx 1 <| ys <| yc (rL ((k : Nat) : Int) (((p.marks).size : Nat) : Int)) (fun m => ?_) fun m => ?_
 ·have V := m; refine yk <| ys <| q8 <| ysr <| yp 3 [] (.i ((k : Nat) : Int) ((p.marks).size) (.l (v := uX (bt p.marks ((k : Nat) : Int))) (qh2 x (i := k) (by omega)) .z)) <| ye <| ysr <| yq 2 <| yo (yQT (qme ((bt p.marks ((k : Nat) : Int))) _) fun W o => ?_); have K := zu A o iZ; have L := zt y o eZ; have M := Ch.rd o x id; refine yz 4 <| yc (rN (rY (qiG ((bt p.marks ((k : Nat) : Int)))))) (fun q => ?_) fun q => ?_
  ·have r : qiG (bt p.marks ((k : Nat) : Int)) = false := q; refine yx 1 <| qe (rB (rS (qE (rB (rS (yR1 (.bool false) ?_)))))); exact ⟨congrArg Ending.returned (congrArg Value.bool (qid (by omega) r)), Up.ch K⟩
  have r : qiG (bt p.marks ((k : Nat) : Int)) = true := q; refine qr (nB (nS ?_)); refine q7 <| yp 2 [] (.q6 (((k : Nat) : Int) + 1) .z) <| yE (fun a ha => J (k + 1) _ ⟨by omega, fun i hi => (Nat.lt_or_ge i k).elim (t i) (fun h => by rw [show i = k by omega]; exact r), M, L⟩ (by show (p.marks).size - (k + 1) < (p.marks).size - k; omega) a (ha.kp [3, 25, 26, 27]))
 have X := m; refine qo (eS (qg (qd (nS ?_)))); refine yx 1 <| qe (yR1 (.bool true) ?_); exact ⟨congrArg Ending.returned (congrArg Value.bool (qjv f g (fun i hi => t i (by omega)))), Up.ch A⟩
set_option maxHeartbeats 4000000 in
theorem qcx (p : PS) (pa : Option Addr) (pn pc : Nat) (w : World) : Calls Tryz.prog 68 [.agg #[iX p.state, uX p.utf.b0, uX p.utf.b1, uX p.utf.b2, iX p.utf.n, .string p.marks, .slice pa pn pc, .string p.text, iX p.within], iX 0, iX 2, .func (.func 70) #[] #[]].toArray w fun e w' => e = .returned (.bool (qb4 0 qbE p.marks)) ∧ Ch (fun _ => False) w w' := by
 refine yA Tryz.func68 rfl <| ysr <| yo (yN [iX p.state, uX p.utf.b0, uX p.utf.b1, uX p.utf.b2, iX p.utf.n, .string p.marks, .slice pa pn pc, .string p.text, iX p.within] 55 fun N O B P b C => ?_); have Q := zn B (zm w); have d := zu (zm w) C iZ; refine yz 2 <| ys <| ysr <| yp 6 [] (.l (b.c 5) .z) <| yw [16] (rL ((p.marks).size : Int) 0) (fun r => ?_) fun r => ?_
 ·exfalso; omega
 refine yp 12 [] (.l (b.c 5) .z) <| ye <| yc (rL 2 ((p.marks).size : Int)) (fun f => ?_) fun f => ?_
 ·refine yx 1 <| qe (rS (yR1 (.bool false) ?_)); exact ⟨congrArg Ending.returned (congrArg Value.bool (qic f)), Up.ch d⟩
 refine yk <| ys <| ysr <| yp 2 [] (.l (b.c 5) .z) <| yo (qff p.marks (some 25) (by kernel_rfl) ?_); intro D g s E R F G; have S := zn E d; have H := zu d G iZ; refine yz 5 <| q8 <| qT [3, 25, 26, 27] (f' := [(3, .func (.func 70) #[] #[]), (25, .slice (some ⟨g, 0, none⟩) (p.marks).size s), (26, iX (((p.marks).size : Nat) : Int)), (27, iX 0)]) <| qz (σ := Nat) (fun k => [(3, .func (.func 70) #[] #[]), (25, .slice (some ⟨g, 0, none⟩) (p.marks).size s), (26, iX (((p.marks).size : Nat) : Int)), (27, iX ((k : Nat) : Int))]) (fun k u => k ≤ (p.marks).size ∧ (∀ i : Nat, i < k → qbE (bt p.marks (i : Int)) = true) ∧ Rd u (some ⟨g, 0, none⟩) (qeu p.marks) ∧ Ch (fun _ => False) D u) (fun k => (p.marks).size - k) 0 rfl ?_ ?_
 ·exact ⟨Nat.zero_le _, fun i hi => absurd hi (Nat.not_lt_zero i), F, Ch.refl _ _⟩
 intro k T I U J; obtain ⟨hk, t, x, y⟩ := I; have A := zu H y iZ; refine yx 1 <| ys <| yc (rL ((k : Nat) : Int) (((p.marks).size : Nat) : Int)) (fun j => ?_) fun j => ?_
 ·have V := j; refine yk <| ys <| q8 <| ysr <| yp 3 [] (.i ((k : Nat) : Int) ((p.marks).size) (.l (v := uX (bt p.marks ((k : Nat) : Int))) (qh2 x (i := k) (by omega)) .z)) <| ye <| ysr <| yq 2 <| yo (yQT (qmf ((bt p.marks ((k : Nat) : Int))) _) fun W m => ?_); have K := zu A m iZ; have L := zt y m eZ; have M := Ch.rd m x id; refine yz 4 <| yc (rN (rY (qbE ((bt p.marks ((k : Nat) : Int)))))) (fun o => ?_) fun o => ?_
  ·have q : qbE (bt p.marks ((k : Nat) : Int)) = false := o; refine yx 1 <| qe (rB (rS (qE (rB (rS (yR1 (.bool false) ?_)))))); exact ⟨congrArg Ending.returned (congrArg Value.bool (qid (by omega) q)), Up.ch K⟩
  have q : qbE (bt p.marks ((k : Nat) : Int)) = true := o; refine qr (nB (nS ?_)); refine q7 <| yp 2 [] (.q6 (((k : Nat) : Int) + 1) .z) <| yE (fun a ha => J (k + 1) _ ⟨by omega, fun i hi => (Nat.lt_or_ge i k).elim (t i) (fun h => by rw [show i = k by omega]; exact q), M, L⟩ (by show (p.marks).size - (k + 1) < (p.marks).size - k; omega) a (ha.kp [3, 25, 26, 27]))
 have X := j; refine qo (eS (qg (qd (nS ?_)))); refine yx 1 <| qe (yR1 (.bool true) ?_); exact ⟨congrArg Ending.returned (congrArg Value.bool (qjv r f (fun i hi => t i (by omega)))), Up.ch A⟩
set_option maxHeartbeats 4000000 in
theorem qjx (p : PS) (pa : Option Addr) (pn pc : Nat) (w : World) (htz : p.text.size ≤ 1000) : Calls Tryz.prog 72 [.agg #[iX p.state, uX p.utf.b0, uX p.utf.b1, uX p.utf.b2, iX p.utf.n, .string p.marks, .slice pa pn pc, .string p.text, iX p.within]].toArray w fun e w' => e = .returned (.bool (qef p.text)) ∧ Ch (fun _ => False) w w' := by
 refine yA Tryz.func72 rfl <| ysr <| yo (yN [iX p.state, uX p.utf.b0, uX p.utf.b1, uX p.utf.b2, iX p.utf.n, .string p.marks, .slice pa pn pc, .string p.text, iX p.within] 55 fun L j y M m A => ?_); have N := zn y (zm w); have o := zu (zm w) A iZ; refine yz 2 <| ys <| ysr <| yp 2 [] (.l (m.c 7) .z) <| yo (qff p.text (some 7) (by kernel_rfl) ?_); intro B b q C O D r; have P := zn C o; have E := zu o r iZ; have F := m.ch r id; refine yz 5 <| q8 <| qT [1, 7, 8, 9] (f' := [(1, pX j), (7, .slice (some ⟨b, 0, none⟩) (p.text).size q), (8, iX (((p.text).size : Nat) : Int)), (9, iX 0)]) <| qz (σ := Nat) (fun k => [(1, pX j), (7, .slice (some ⟨b, 0, none⟩) (p.text).size q), (8, iX (((p.text).size : Nat) : Int)), (9, iX ((k : Nat) : Int))]) (fun k u => k ≤ (p.text).size ∧ (∀ i : Nat, i < k → (fun c => decide (32 ≤ c)) (bt p.text (i : Int)) = true) ∧ Rd u (some ⟨b, 0, none⟩) (qeu p.text) ∧ Ch (fun _ => False) B u) (fun k => (p.text).size - k) 0 rfl ?_ ?_
 ·exact ⟨Nat.zero_le _, fun i hi => absurd hi (Nat.not_lt_zero i), D, Ch.refl _ _⟩
 intro k Q G R H; obtain ⟨hk, s, t, d⟩ := G; have x := zu E d iZ; have I := F.ch d id; refine yx 1 <| ys <| yc (rL ((k : Nat) : Int) (((p.text).size : Nat) : Int)) (fun f => ?_) fun f => ?_
 ·have S := f; refine yk <| ys <| q8 <| ysr <| yp 3 [] (.i ((k : Nat) : Int) ((p.text).size) (.l (v := uX (bt p.text ((k : Nat) : Int))) (qh2 t (i := k) (by omega)) .z)) <| ye <| yx 2 <| yc (rL (bt p.text ((k : Nat) : Int)) 32) (fun g => ?_) fun g => ?_
  ·have J := g; refine yx 1 <| qe (rB (rS (qE (rB (rS (yR1 (.bool false) ?_)))))); exact ⟨congrArg Ending.returned (congrArg Value.bool (textB_at (by omega) J)), Up.ch x⟩
  have K : decide (32 ≤ bt p.text ((k : Nat) : Int)) = true := decide_eq_true (by have := g; omega); refine qr (nB (nS ?_)); refine q7 <| yp 2 [] (.q6 (((k : Nat) : Int) + 1) .z) <| yE (fun a ha => H (k + 1) _ ⟨by omega, fun i hi => (Nat.lt_or_ge i k).elim (s i) (fun h => by rw [show i = k by omega]; exact K), t, d⟩ (by show (p.text).size - (k + 1) < (p.text).size - k; omega) a (ha.kp [1, 7, 8, 9]))
 have T := f; refine qo (eS (qg (qd (nS ?_)))); refine ysr <| yp 5 [] (.l (I.c 7) .z) <| ye <| qe (yR1 (.bool (decide (((p.text).size : Int) ≤ 40))) ?_); exact ⟨congrArg Ending.returned (congrArg Value.bool (textB_t (fun i hi => s i (by omega)))), Up.ch x⟩
set_option maxHeartbeats 4000000 in
theorem qeM (p : PS) (pa : Option Addr) (pn pc : Nat) (w : World) (hr : Rd w pa (p.params.map (Value.int .i64))) (hl : p.params.length = pn) (hz : pn = 0 ∨ ∃ b o, pa = some ⟨b, o, none⟩) (hn : pn ≤ 8) : Calls Tryz.prog 71 [.agg #[iX p.state, uX p.utf.b0, uX p.utf.b1, uX p.utf.b2, iX p.utf.n, .string p.marks, .slice pa pn pc, .string p.text, iX p.within]].toArray w fun e w' => e = .returned (.bool (qex p.params)) ∧ Ch (fun _ => False) w w' := by
 refine yA Tryz.func71 rfl <| ysr <| yo (yN [iX p.state, uX p.utf.b0, uX p.utf.b1, uX p.utf.b2, iX p.utf.n, .string p.marks, .slice pa pn pc, .string p.text, iX p.within] 55 fun v q x F r s => ?_); have G := zn x (zm w); have y := zu (zm w) s iZ; have A := Rd.ch hr s iZ; refine yz 2 <| ys <| ysr <| yp 4 [] (.l (r.c 6) .z) <| ye <| q8 <| qT [1, 6, 7, 8] (f' := [(1, pX q), (6, .slice pa pn pc), (7, iX ((pn : Nat) : Int)), (8, iX 0)]) <| qz (σ := Nat) (fun k => [(1, pX q), (6, .slice pa pn pc), (7, iX ((pn : Nat) : Int)), (8, iX ((k : Nat) : Int))]) (fun k u => k ≤ pn ∧ (∀ i : Nat, i < k → 0 ≤ p.params.getD i 0 ∧ p.params.getD i 0 ≤ 9999) ∧ Ch (fun _ => False) v u) (fun k => pn - k) 0 rfl ?_ ?_
 ·exact ⟨Nat.zero_le _, fun i hi => absurd hi (Nat.not_lt_zero i), Ch.refl _ _⟩
 intro k H B I C; obtain ⟨hk, t, d⟩ := B; have f := zu y d iZ; have D := Rd.ch A d iZ; have E := r.ch d id; refine yx 1 <| ys <| yc (rL ((k : Nat) : Int) ((pn : Nat) : Int)) (fun g => ?_) fun g => ?_
 ·obtain ⟨pb, po, rfl⟩ := hz.resolve_left (by omega); have J := g; refine yk <| ys <| q8 <| ysr <| yp 3 [] (.i ((k : Nat) : Int) (pn) (.l (o := (po + (((k : Nat) : Int)).toNat * 1)) (qdo D (by omega)) .z)) <| ye <| ysr <| yq 3 <| yw [14] (rL (p.params.getD k 0) 0) (fun j => ?_) fun j => ?_
  ·have K := j; refine yz 6 <| yct <| yx 1 <| qe (rB (rS (qE (rB (rS (yR1 (.bool false) ?_)))))); exact ⟨congrArg Ending.returned (congrArg Value.bool (qjw (l := p.params) (k := k) (by omega) (by omega))), Up.ch f⟩
  have L := j; refine yz 6 <| yc (rL 9999 (p.params.getD k 0)) (fun m => ?_) fun m => ?_
  ·have M := m; refine yx 1 <| qe (rB (rS (qE (rB (rS (yR1 (.bool false) ?_)))))); exact ⟨congrArg Ending.returned (congrArg Value.bool (qjw (l := p.params) (k := k) (by omega) (by omega))), Up.ch f⟩
  have N := m; refine qr (nB (nS ?_)); refine q7 <| yp 2 [] (.q6 (((k : Nat) : Int) + 1) .z) <| yE (fun a ha => C (k + 1) _ ⟨by omega, fun i hi => (Nat.lt_or_ge i k).elim (t i) (fun h => by rw [show i = k by omega]; omega), d⟩ (by show pn - (k + 1) < pn - k; omega) a (ha.kp [1, 6, 7, 8]))
 have O := g; refine qo (eS (qg (qd (nS ?_)))); refine ysr <| yp 5 [] (.l (E.c 6) .z) <| ye <| qe (yR1 (.bool (decide (((pn : Nat) : Int) ≤ 8))) ?_); exact ⟨congrArg Ending.returned (congrArg Value.bool (by rw [← numsB_t (fun i hi => t i (by omega)), hl])), Up.ch f⟩
set_option maxHeartbeats 4000000 in
theorem qmg (x0 : Int) (x1 : Int) (x2 : Int) (w : World) (hU : qc2 w) (hB : ∀ x ∈ ([x0, x1, x2] : List Int), 0 ≤ x ∧ x ≤ 255) : Calls Tryz.prog 67 [.agg #[uX x0, uX x1, uX x2, iX 0]].toArray w fun e w' => e = .returned (.bool (utB ⟨x0, x1, x2, 0⟩)) ∧ Ch (fun _ => False) w w' := by
 refine yA Tryz.func67 rfl <| ysr <| yo (yN [uX x0, uX x1, uX x2, iX 0] 52 fun u v m y a n => ?_); have A := zn m (zm w); have b := zu (zm w) n iZ; refine yz 2 <| ys <| ysr <| yp 8 [] (.l (a.c 3) (.l (a.c 3) .z)) <| ye <| ycf <| yk <| ys <| ysr <| yp 6 [3] (.l (a.c 3) (.j 0 (3) (.p (q := 0 < 3) (by omega) .z))) <| ye <| q8 <| yU 4 (yU1 ?_); refine yx 1 <| ys <| yct <| yk <| ys <| q8 <| ysr <| yp 3 [] (.i 0 (3) (.l (a.c 0) .z)) <| ye <| yx 2 <| yc (rI x0 0) (fun d => ?_) fun d => ?_
 ·have o := d; refine yx 1 <| qe (rB (rS (qE (rB (rS (yR1 (.bool false) ?_)))))); refine ⟨zc ?_, Up.ch b⟩; unfold utB US.pend; simp [o]
 have f := d; refine qr (nB (nS ?_)); refine q7 <| yp 2 [] (.q6 1 .z) <| yE (nU (yU1 ?_)); refine yx 1 <| ys <| yct <| yk <| ys <| q8 <| ysr <| yp 3 [] (.i 1 (3) (.l (a.c 1) .z)) <| ye <| yx 2 <| yc (rI x1 0) (fun g => ?_) fun g => ?_
 ·have r := g; refine yx 1 <| qe (rB (rS (qE (rB (rS (yR1 (.bool false) ?_)))))); refine ⟨zc ?_, Up.ch b⟩; unfold utB US.pend; simp [f, r]
 have k := g; refine qr (nB (nS ?_)); refine q7 <| yp 2 [] (.q6 2 .z) <| yE (nU (yU1 ?_)); refine yx 1 <| ys <| yct <| yk <| ys <| q8 <| ysr <| yp 3 [] (.i 2 (3) (.l (a.c 2) .z)) <| ye <| yx 2 <| yc (rI x2 0) (fun h => ?_) fun h => ?_
 ·have s := h; refine yx 1 <| qe (rB (rS (qE (rB (rS (yR1 (.bool false) ?_)))))); refine ⟨zc ?_, Up.ch b⟩; unfold utB US.pend; simp [f, k, s]
 have t := h; refine qr (nB (nS ?_)); refine q7 <| yp 2 [] (.q6 3 .z) <| yE (nU (yU1 ?_)); refine yx 1 <| ys <| ycf <| qo (eS (qg (qd (nS ?_)))); refine ysr <| yp 12 [] (.l (a.c 3) .z) <| ye <| qe (yR1 (.bool true) ?_); refine ⟨zc ?_, Up.ch b⟩; unfold utB US.pend; simp [f, k, t]
set_option maxHeartbeats 4000000 in
theorem qmh (x0 : Int) (x1 : Int) (x2 : Int) (w : World) (hU : qc2 w) (hB : ∀ x ∈ ([x0, x1, x2] : List Int), 0 ≤ x ∧ x ≤ 255) : Calls Tryz.prog 67 [.agg #[uX x0, uX x1, uX x2, iX 1]].toArray w fun e w' => e = .returned (.bool (utB ⟨x0, x1, x2, 1⟩)) ∧ Ch (fun _ => False) w w' := by
 refine yA Tryz.func67 rfl <| ysr <| yo (yN [uX x0, uX x1, uX x2, iX 1] 52 fun y k m A a g => ?_); have B := zn m (zm w); have b := zu (zm w) g iZ; have n := qa0 g hU id id; refine yz 2 <| ys <| ysr <| yp 8 [] (.l (a.c 3) (.l (a.c 3) .z)) <| ye <| ycf <| yk <| ys <| ysr <| yp 6 [3] (.l (a.c 3) (.j 1 (3) (.p (q := 1 < 3) (by omega) .z))) <| ye <| q8 <| yU 3 (yU1 ?_); refine yx 1 <| ys <| yct <| yk <| ys <| q8 <| ysr <| yp 3 [] (.i 0 (2) (.l (a.c 1) .z)) <| ye <| yx 2 <| yc (rI x1 0) (fun d => ?_) fun d => ?_
 ·have o := d; refine yx 1 <| qe (rB (rS (qE (rB (rS (yR1 (.bool false) ?_)))))); refine ⟨zc ?_, Up.ch b⟩; unfold utB US.pend; simp [o]
 have h := d; refine qr (nB (nS ?_)); refine q7 <| yp 2 [] (.q6 1 .z) <| yE (nU (yU1 ?_)); refine yx 1 <| ys <| yct <| yk <| ys <| q8 <| ysr <| yp 3 [] (.i 1 (2) (.l (a.c 2) .z)) <| ye <| yx 2 <| yc (rI x2 0) (fun f => ?_) fun f => ?_
 ·have s := f; refine yx 1 <| qe (rB (rS (qE (rB (rS (yR1 (.bool false) ?_)))))); refine ⟨zc ?_, Up.ch b⟩; unfold utB US.pend; simp [h, s]
 have t := f; refine qr (nB (nS ?_)); refine q7 <| yp 2 [] (.q6 2 .z) <| yE (nU (yU1 ?_)); refine yx 1 <| ys <| ycf <| qo (eS (qg (qd (nS ?_)))); refine ysr <| yp 8 [] (.l (a.c 3) (.l (a.c 3) (.j 1 (3) .z))) <| yo (yQ (qbV k 0 3 [x0] n (Rd.pre (ys := [x0].map (Value.int .u8)) (r := [uX x1, uX x2, iX 1]) a) a.lt (fun x hx => hB x (by simp only [List.mem_cons, List.not_mem_nil, or_false] at hx ⊢; first | exact hx | (rcases hx with hx | hx; exact .inl hx; exact .inr (.inl hx)) | exact .inl hx)) (qbr rfl)) fun C u => ?_); have v := zu b u iZ; refine yz 12 <| qe (yR1 (.bool (!(qbw [x0]))) ?_); refine ⟨zc ?_, Up.ch v⟩; unfold utB US.pend; simp [h, t]
set_option maxHeartbeats 4000000 in
theorem qmi (x0 : Int) (x1 : Int) (x2 : Int) (w : World) (hU : qc2 w) (hB : ∀ x ∈ ([x0, x1, x2] : List Int), 0 ≤ x ∧ x ≤ 255) : Calls Tryz.prog 67 [.agg #[uX x0, uX x1, uX x2, iX 2]].toArray w fun e w' => e = .returned (.bool (utB ⟨x0, x1, x2, 2⟩)) ∧ Ch (fun _ => False) w w' := by
 refine yA Tryz.func67 rfl <| ysr <| yo (yN [uX x0, uX x1, uX x2, iX 2] 52 fun t g h u a d => ?_); have v := zn h (zm w); have f := zu (zm w) d iZ; have k := qa0 d hU id id; refine yz 2 <| ys <| ysr <| yp 8 [] (.l (a.c 3) (.l (a.c 3) .z)) <| ye <| ycf <| yk <| ys <| ysr <| yp 6 [3] (.l (a.c 3) (.j 2 (3) (.p (q := 2 < 3) (by omega) .z))) <| ye <| q8 <| yU 2 (yU1 ?_); refine yx 1 <| ys <| yct <| yk <| ys <| q8 <| ysr <| yp 3 [] (.i 0 (1) (.l (a.c 2) .z)) <| ye <| yx 2 <| yc (rI x2 0) (fun b => ?_) fun b => ?_
 ·have m := b; refine yx 1 <| qe (rB (rS (qE (rB (rS (yR1 (.bool false) ?_)))))); refine ⟨zc ?_, Up.ch f⟩; unfold utB US.pend; simp [m]
 have n := b; refine qr (nB (nS ?_)); refine q7 <| yp 2 [] (.q6 1 .z) <| yE (nU (yU1 ?_)); refine yx 1 <| ys <| ycf <| qo (eS (qg (qd (nS ?_)))); refine ysr <| yp 8 [] (.l (a.c 3) (.l (a.c 3) (.j 2 (3) .z))) <| yo (yQ (qbV g 0 3 [x0, x1] k (Rd.pre (ys := [x0, x1].map (Value.int .u8)) (r := [uX x2, iX 2]) a) a.lt (fun x hx => hB x (by simp only [List.mem_cons, List.not_mem_nil, or_false] at hx ⊢; first | exact hx | (rcases hx with hx | hx; exact .inl hx; exact .inr (.inl hx)) | exact .inl hx)) (qbr rfl)) fun y o => ?_); have s := zu f o iZ; refine yz 12 <| qe (yR1 (.bool (!(qbw [x0, x1]))) ?_); refine ⟨zc ?_, Up.ch s⟩; unfold utB US.pend; simp [n]
set_option maxHeartbeats 4000000 in
theorem qmj (x0 : Int) (x1 : Int) (x2 : Int) (w : World) (hU : qc2 w) (hB : ∀ x ∈ ([x0, x1, x2] : List Int), 0 ≤ x ∧ x ≤ 255) : Calls Tryz.prog 67 [.agg #[uX x0, uX x1, uX x2, iX 3]].toArray w fun e w' => e = .returned (.bool (utB ⟨x0, x1, x2, 3⟩)) ∧ Ch (fun _ => False) w w' := by
 refine yA Tryz.func67 rfl <| ysr <| yo (yN [uX x0, uX x1, uX x2, iX 3] 52 fun m d f n a b => ?_); have o := zn f (zm w); have g := zu (zm w) b iZ; have h := qa0 b hU id id; refine yz 2 <| ys <| ysr <| yp 8 [] (.l (a.c 3) (.l (a.c 3) .z)) <| ye <| ycf <| yk <| ys <| ysr <| yp 6 [] (.l (a.c 3) (.j 3 (3) .z)) <| ye <| q8 <| yU 1 (yU1 ?_); refine yx 1 <| ys <| ycf <| qo (eS (qg (qd (nS ?_)))); refine ysr <| yp 8 [] (.l (a.c 3) (.l (a.c 3) (.j 3 (3) .z))) <| yo (yQ (qbV d 0 3 [x0, x1, x2] h (Rd.pre (ys := [x0, x1, x2].map (Value.int .u8)) (r := [iX 3]) a) a.lt (fun x hx => hB x (by simp only [List.mem_cons, List.not_mem_nil, or_false] at hx ⊢; first | exact hx | (rcases hx with hx | hx; exact .inl hx; exact .inr (.inl hx)) | exact .inl hx)) (qbr rfl)) fun p i => ?_); have k := zu g i iZ; refine yz 12 <| qe (yR1 (.bool (!(qbw [x0, x1, x2]))) ?_); refine ⟨zc ?_, Up.ch k⟩; unfold utB US.pend; simp [true_and]
theorem qmk {u : US} (h : u.n < 0 ∨ 3 < u.n) : false = utB u := by
 unfold utB; rcases h with h | h
 ·rw [decide_eq_false (show ¬ 0 ≤ u.n by omega)]; rfl
 rw [decide_eq_false (show ¬ u.n ≤ 3 by omega), Bool.and_false]; rfl
set_option maxHeartbeats 4000000 in
theorem qml (u : US) (w : World) (hn : u.n < 0 ∨ 3 < u.n) : Calls Tryz.prog 67 [.agg #[uX u.b0, uX u.b1, uX u.b2, iX u.n]].toArray w fun e w' => e = .returned (.bool (utB u)) ∧ Ch (fun _ => False) w w' := by
 refine yA Tryz.func67 rfl <| ysr <| yo (yN [uX u.b0, uX u.b1, uX u.b2, iX u.n] 52 fun i j g k d h => ?_); have m := zn g (zm w); have f := zu (zm w) h iZ; refine yz 2 <| ys <| ysr <| yp 4 [] (.l (d.c 3) .z) <| yw [8] (rL u.n 0) (fun a => ?_) fun a => ?_
 ·have o := a; refine yz 8 <| yct <| yx 1 <| qe (rS (yR1 (.bool false) ?_)); exact ⟨congrArg Ending.returned (congrArg Value.bool (qmk hn)), Up.ch f⟩
 have p := a; refine yp 8 [] (.l (d.c 3) .z) <| ye <| yc (rL 3 u.n) (fun b => ?_) fun b => ?_
 ·have q := b; refine yx 1 <| qe (rS (yR1 (.bool false) ?_)); exact ⟨congrArg Ending.returned (congrArg Value.bool (qmk hn)), Up.ch f⟩
 have r := b; exfalso; omega
theorem qmm (u : US) (w : World) (hU : qc2 w) (ho : u.ok) : Calls Tryz.prog 67 [.agg #[uX u.b0, uX u.b1, uX u.b2, iX u.n]].toArray w fun e w' => e = .returned (.bool (utB u)) ∧ Ch (fun _ => False) w w' := by
 obtain ⟨a, b, c, n⟩ := u; obtain ⟨d, f, g, h⟩ := ho; dsimp only at *; have hB : ∀ x ∈ ([a, b, c] : List Int), 0 ≤ x ∧ x ≤ 255 := fun x hx => by
  simp only [List.mem_cons, List.not_mem_nil, or_false] at hx; rcases hx with rfl | rfl | rfl <;> assumption
 by_cases hn : n < 0 ∨ 3 < n
 ·exact qml ⟨a, b, c, n⟩ w hn
 have hn : n = 0 ∨ n = 1 ∨ n = 2 ∨ n = 3 := by omega
 rcases hn with rfl | rfl | rfl | rfl
 ·exact qmg a b c w hU hB
 ·exact qmh a b c w hU hB
 ·exact qmi a b c w hU hB
 exact qmj a b c w hU hB
set_option maxHeartbeats 4000000 in
theorem rightE (p : PS) (pa : Option Addr) (pn pc : Nat) (w : World) (hU : qc2 w) (ho : p.utf.ok) (hr : Rd w pa (p.params.map (Value.int .i64))) (hl : p.params.length = pn) (hz : pn = 0 ∨ ∃ b o, pa = some ⟨b, o, none⟩) (hn : pn ≤ 8) (htz : p.text.size ≤ 1000) : Calls Tryz.prog 55 [.agg #[iX p.state, uX p.utf.b0, uX p.utf.b1, uX p.utf.b2, iX p.utf.n, .string p.marks, .slice pa pn pc, .string p.text, iX p.within]].toArray w fun e w' => e = .returned (.bool (qt p)) ∧ Ch (fun _ => False) w w' := by
 refine yA Tryz.func55 rfl <| ysr <| yo (yN [iX p.state, uX p.utf.b0, uX p.utf.b1, uX p.utf.b2, iX p.utf.n, .string p.marks, .slice pa pn pc, .string p.text, iX p.within] 55 fun dn dp c7 dq d S => ?_); have dr := zn c7 (zm w); have f := zu (zm w) S iZ; have bs := qa0 S hU id id; have P := Rd.ch hr S iZ; refine yz 2 <| ysr <| yp 5 [] (.a (d.cs 1 4) .z) <| ye <| ysr <| yp 4 [] (.l (d.c 5) .z) <| yw [12] (rY ((p.marks).toList == (ByteArray.empty).toList)) (fun T => ?_) fun T => ?_
 ·have g : zb p.marks = true := T; refine yp 10 [] (.l (d.c 6) .z) <| ye <| ys <| ysr <| yp 4 [] (.l (d.c 0) .z) <| yw [21] (rI p.state 7) (fun U => ?_) fun U => ?_
  ·have h := U; refine yp 9 [] (.l (d.c 8) .z) <| yw [26] (rI p.within 0) (fun V => ?_) fun V => ?_
   ·have c8 := V; refine yz 17 <| yct <| yx 1 <| qe (rS (yR1 (.bool false) ?_)); refine ⟨zc ?_, Up.ch f⟩; unfold qt qby
    try rw [show (p.text.toList == ByteArray.empty.toList) = zb p.text from rfl]
    simp [g, h, c8]
   have j := V; refine yp 13 [] (.l (d.c 0) .z) <| yw [30] (rI p.state 0) (fun W => ?_) fun W => ?_
   ·have k := W; refine yz 17 <| yc (rN (rY ((((p.utf.b0 : Int) == 0) && (((p.utf.b1 : Int) == 0) && (((p.utf.b2 : Int) == 0) && true))) && (((p.utf.n : Int) == 0) && true)))) (fun X => ?_) fun X => ?_
    ·have c9 : qcE p.utf = false := by rw [← X]; unfold qcE; simp [Bool.and_assoc]
     refine yx 1 <| qe (rS (yR1 (.bool false) ?_)); refine ⟨zc ?_, Up.ch f⟩; unfold qt qby
     try rw [show (p.text.toList == ByteArray.empty.toList) = zb p.text from rfl]
     simp [g, h, j, k, c9]
    have q : qcE p.utf = true := by rw [← X]; unfold qcE; simp [Bool.and_assoc]
    refine yk <| ys <| ysr <| yp 2 [] (.l (d.c 0) .z) <| ye <| q8 <| ys <| q8 <| ys <| q8 <| ys <| q8 <| ys <| q8 <| ys <| q8 <| ys <| q8 <| ys <| ys <| yx 2 <| yc (rE p.state 0) (fun Y => ?_) fun Y => ?_
    ·have ds := Y; exfalso; omega
    have r := Y; refine yk <| ys <| yx 2 <| yc (rE p.state 1) (fun Z => ?_) fun Z => ?_
    ·have bt := Z; refine qo (eS (eS (eB (eS (qd (nS ?_)))))); refine ys <| ysr <| yq 2 <| yw [63] (rE ((pn : Nat) : Int) 0) (fun ca => ?_) fun ca => ?_
     ·have cb : (p.params.length == 0) = true := by rw [hl]; first | (rw [beq_iff_eq]; omega) | (rw [beq_eq_false_iff_ne]; omega)
      refine yp 7 [] (.l (d.c 7) .z) <| ye <| qe (rS (rB (rS (rB (rS (rB (rS (rB (rS (rB (rS (yR1 (.bool ((p.text).toList == (ByteArray.empty).toList)) ?_)))))))))))); refine ⟨zc ?_, Up.ch f⟩; unfold qt qby
      try rw [show (p.text.toList == ByteArray.empty.toList) = zb p.text from rfl]
      simp [g, h, j, k, q, r, bt, cb]
     have cc : (p.params.length == 0) = false := by rw [hl]; first | (rw [beq_iff_eq]; omega) | (rw [beq_eq_false_iff_ne]; omega)
     refine yz 7 <| qe (rS (rB (rS (rB (rS (rB (rS (rB (rS (rB (rS (yR1 (.bool false) ?_)))))))))))); refine ⟨zc ?_, Up.ch f⟩; unfold qt qby
     try rw [show (p.text.toList == ByteArray.empty.toList) = zb p.text from rfl]
     simp [g, h, j, k, q, r, bt, cc]
    have t := Z; refine yk <| ys <| yx 2 <| yc (rE p.state 2) (fun a0 => ?_) fun a0 => ?_
    ·have a1 := a0; refine qo (eS (eS (eB (eS (eB (eS (qd (nS ?_)))))))); refine ys <| ysr <| yp 1 [] (.a (d.cs 0 9) .z) <| yo (yQ (qg9 p pa pn pc _) fun dt bu => ?_); have a2 := zu f bu iZ; have bv := d.ch bu id; refine yq 3 <| yw [70] (rY (qb4 1 qiG p.marks)) (fun a3 => ?_) fun a3 => ?_
     ·have bw := a3; refine yp 9 [] (.l (bv.c 6) .z) <| yw [76] (rE ((pn : Nat) : Int) 0) (fun cd => ?_) fun cd => ?_
      ·have ce : (p.params.length == 0) = true := by rw [hl]; first | (rw [beq_iff_eq]; omega) | (rw [beq_eq_false_iff_ne]; omega)
       refine yp 14 [] (.l (bv.c 7) .z) <| ye <| qe (rS (rB (rS (rB (rS (rB (rS (rB (rS (yR1 (.bool ((p.text).toList == (ByteArray.empty).toList)) ?_)))))))))); refine ⟨zc ?_, Up.ch a2⟩; unfold qt qby
       try rw [show (p.text.toList == ByteArray.empty.toList) = zb p.text from rfl]
       simp [g, h, j, k, q, r, t, a1, bw, ce]
      have cf : (p.params.length == 0) = false := by rw [hl]; first | (rw [beq_iff_eq]; omega) | (rw [beq_eq_false_iff_ne]; omega)
      refine yz 14 <| qe (rS (rB (rS (rB (rS (rB (rS (rB (rS (yR1 (.bool false) ?_)))))))))); refine ⟨zc ?_, Up.ch a2⟩; unfold qt qby
      try rw [show (p.text.toList == ByteArray.empty.toList) = zb p.text from rfl]
      simp [g, h, j, k, q, r, t, a1, bw, cf]
     have cg := a3; refine yz 14 <| qe (rS (rB (rS (rB (rS (rB (rS (rB (rS (yR1 (.bool false) ?_)))))))))); refine ⟨zc ?_, Up.ch a2⟩; unfold qt qby
     try rw [show (p.text.toList == ByteArray.empty.toList) = zb p.text from rfl]
     simp [g, h, j, k, q, r, t, a1, cg]
    have A := a0; refine yk <| ys <| ys <| yx 2 <| yc (rE p.state 3) (fun a4 => ?_) fun a4 => ?_
    ·have a5 := a4; refine yk <| yc (rE p.state 3) (fun a6 => ?_) fun a6 => ?_
     ·have a7 := a6; refine qo (eS (eS (eB (eS (eB (eS (eB (eS (qd (nS ?_)))))))))); refine ys <| ysr <| yp 1 [] (.a (d.cs 0 9) .z) <| yo (yQ (qcx p pa pn pc _) fun du a8 => ?_); have bx := zu f a8 iZ; have ci := Rd.ch P a8 iZ; have bz := d.ch a8 id; refine yq 3 <| yw [83] (rY (qb4 0 qbE p.marks)) (fun a9 => ?_) fun a9 => ?_
      ·have bA := a9; refine yp 4 [] (.a (bz.cs 0 9) .z) <| yo (yQ (qeM p pa pn pc _ ci hl hz hn) fun dv bB => ?_); have bC := zu bx bB iZ; have cj := bz.ch bB id; refine yq 7 <| yw [87] (rY (qex p.params)) (fun aa => ?_) fun aa => ?_
       ·have ck := aa; refine yp 12 [] (.l (cj.c 7) .z) <| ye <| qe (rS (rB (rS (rB (rS (rB (rS (yR1 (.bool ((p.text).toList == (ByteArray.empty).toList)) ?_)))))))); refine ⟨zc ?_, Up.ch bC⟩; unfold qt qby
        try rw [show (p.text.toList == ByteArray.empty.toList) = zb p.text from rfl]
        simp [g, h, j, k, q, r, t, A, a5, a7, bA, ck]
       have cl := aa; refine yz 12 <| qe (rS (rB (rS (rB (rS (rB (rS (yR1 (.bool false) ?_)))))))); refine ⟨zc ?_, Up.ch bC⟩; unfold qt qby
       try rw [show (p.text.toList == ByteArray.empty.toList) = zb p.text from rfl]
       simp [g, h, j, k, q, r, t, A, a5, a7, bA, cl]
      have cm := a9; refine yz 12 <| qe (rS (rB (rS (rB (rS (rB (rS (yR1 (.bool false) ?_)))))))); refine ⟨zc ?_, Up.ch bx⟩; unfold qt qby
      try rw [show (p.text.toList == ByteArray.empty.toList) = zb p.text from rfl]
      simp [g, h, j, k, q, r, t, A, a5, a7, cm]
     have dw := a6; exfalso; omega
    have C := a4; refine q7 <| yz 2 <| yc (rE p.state 4) (fun ab => ?_) fun ab => ?_
    ·have ac := ab; refine qo (eS (eS (eB (eS (eB (eS (eB (eS (qd (nS ?_)))))))))); refine ys <| ysr <| yp 1 [] (.a (d.cs 0 9) .z) <| yo (yQ (qcx p pa pn pc _) fun dx ad => ?_); have bD := zu f ad iZ; have cn := Rd.ch P ad iZ; have bE := d.ch ad id; refine yq 3 <| yw [83] (rY (qb4 0 qbE p.marks)) (fun ae => ?_) fun ae => ?_
     ·have bF := ae; refine yp 4 [] (.a (bE.cs 0 9) .z) <| yo (yQ (qeM p pa pn pc _ cn hl hz hn) fun dy bG => ?_); have bH := zu bD bG iZ; have co := bE.ch bG id; refine yq 7 <| yw [87] (rY (qex p.params)) (fun af => ?_) fun af => ?_
      ·have cp := af; refine yp 12 [] (.l (co.c 7) .z) <| ye <| qe (rS (rB (rS (rB (rS (rB (rS (yR1 (.bool ((p.text).toList == (ByteArray.empty).toList)) ?_)))))))); refine ⟨zc ?_, Up.ch bH⟩; unfold qt qby
       try rw [show (p.text.toList == ByteArray.empty.toList) = zb p.text from rfl]
       simp [g, h, j, k, q, r, t, A, C, ac, bF, cp]
      have cq := af; refine yz 12 <| qe (rS (rB (rS (rB (rS (rB (rS (yR1 (.bool false) ?_)))))))); refine ⟨zc ?_, Up.ch bH⟩; unfold qt qby
      try rw [show (p.text.toList == ByteArray.empty.toList) = zb p.text from rfl]
      simp [g, h, j, k, q, r, t, A, C, ac, bF, cq]
     have cr := ae; refine yz 12 <| qe (rS (rB (rS (rB (rS (rB (rS (yR1 (.bool false) ?_)))))))); refine ⟨zc ?_, Up.ch bD⟩; unfold qt qby
     try rw [show (p.text.toList == ByteArray.empty.toList) = zb p.text from rfl]
     simp [g, h, j, k, q, r, t, A, C, ac, cr]
    have G := ab; refine yk <| ys <| yx 2 <| yc (rE p.state 7) (fun ag => ?_) fun ag => ?_
    ·have dz := ag; exfalso; omega
    have H := ag; refine yk <| ys <| yx 2 <| yc (rE p.state 5) (fun ah => ?_) fun ah => ?_
    ·have bI := ah; refine yk <| yc (rE p.state 5) (fun ai => ?_) fun ai => ?_
     ·have bJ := ai; refine qo (eS (eB (eS (eB (eS (eB (eS (eB (eS (eB (eS (qd (nS ?_))))))))))))); refine ys <| ysr <| yq 2 <| yw [101] (rE ((pn : Nat) : Int) 0) (fun ct => ?_) fun ct => ?_
      ·have cu : (p.params.length == 0) = true := by rw [hl]; first | (rw [beq_iff_eq]; omega) | (rw [beq_eq_false_iff_ne]; omega)
       refine yp 3 [] (.a (d.cs 0 9) .z) <| yo (yQ (qjx p pa pn pc _ htz) fun dA cv => ?_); have cw := zu f cv iZ; refine yz 6 <| qe (rS (rB (rS (yR1 (.bool (qef p.text)) ?_)))); refine ⟨zc ?_, Up.ch cw⟩; unfold qt qby
       try rw [show (p.text.toList == ByteArray.empty.toList) = zb p.text from rfl]
       simp [g, h, j, k, q, r, t, A, C, G, H, bI, bJ, cu]
      have cx : (p.params.length == 0) = false := by rw [hl]; first | (rw [beq_iff_eq]; omega) | (rw [beq_eq_false_iff_ne]; omega)
      refine yz 6 <| qe (rS (rB (rS (yR1 (.bool false) ?_)))); refine ⟨zc ?_, Up.ch f⟩; unfold qt qby
      try rw [show (p.text.toList == ByteArray.empty.toList) = zb p.text from rfl]
      simp [g, h, j, k, q, r, t, A, C, G, H, bI, bJ, cx]
     have dB := ai; exfalso; omega
    have aj := ah; refine q7 <| yz 2 <| yc (rE p.state 6) (fun ak => ?_) fun ak => ?_
    ·have bK := ak; refine qo (eS (eB (eS (eB (eS (eB (eS (eB (eS (eB (eS (qd (nS ?_))))))))))))); refine ys <| ysr <| yq 2 <| yw [101] (rE ((pn : Nat) : Int) 0) (fun cy => ?_) fun cy => ?_
     ·have cz : (p.params.length == 0) = true := by rw [hl]; first | (rw [beq_iff_eq]; omega) | (rw [beq_eq_false_iff_ne]; omega)
      refine yp 3 [] (.a (d.cs 0 9) .z) <| yo (yQ (qjx p pa pn pc _ htz) fun dC cA => ?_); have cB := zu f cA iZ; refine yz 6 <| qe (rS (rB (rS (yR1 (.bool (qef p.text)) ?_)))); refine ⟨zc ?_, Up.ch cB⟩; unfold qt qby
      try rw [show (p.text.toList == ByteArray.empty.toList) = zb p.text from rfl]
      simp [g, h, j, k, q, r, t, A, C, G, H, aj, bK, cz]
     have cC : (p.params.length == 0) = false := by rw [hl]; first | (rw [beq_iff_eq]; omega) | (rw [beq_eq_false_iff_ne]; omega)
     refine yz 6 <| qe (rS (rB (rS (yR1 (.bool false) ?_)))); refine ⟨zc ?_, Up.ch f⟩; unfold qt qby
     try rw [show (p.text.toList == ByteArray.empty.toList) = zb p.text from rfl]
     simp [g, h, j, k, q, r, t, A, C, G, H, aj, bK, cC]
    have cD := ak; refine yk <| qo (eB (eS (eB (eS (eB (eS (eB (eS (eB (eS (eB (eS (qd (nS ?_)))))))))))))); refine yx 1 <| qe (yR1 (.bool false) ?_); refine ⟨zc ?_, Up.ch f⟩; unfold qt qby
    try rw [show (p.text.toList == ByteArray.empty.toList) = zb p.text from rfl]
    simp [g, h, j, k, q, r, t, A, C, G, H, aj, cD]
   have al := W; refine yz 17 <| ycf <| yk <| ys <| ysr <| yp 2 [] (.l (d.c 0) .z) <| ye <| q8 <| ys <| q8 <| ys <| q8 <| ys <| q8 <| ys <| q8 <| ys <| q8 <| ys <| q8 <| ys <| ys <| yx 2 <| yc (rE p.state 0) (fun am => ?_) fun am => ?_
   ·have an := am; refine qo (eS (eS (qd (nS ?_)))); refine ys <| ysr <| yp 2 [] (.a (d.cs 1 4) .z) <| yo (yQ (qmm p.utf _ bs ho) fun dD bL => ?_); have ao := zu f bL iZ; have cE := d.ch bL id; refine yq 4 <| yw [54] (rY (utB p.utf)) (fun ap => ?_) fun ap => ?_
    ·have bM := ap; refine yq 7 <| yw [57] (rE ((pn : Nat) : Int) 0) (fun cF => ?_) fun cF => ?_
     ·have cG : (p.params.length == 0) = true := by rw [hl]; first | (rw [beq_iff_eq]; omega) | (rw [beq_eq_false_iff_ne]; omega)
      refine yp 12 [] (.l (cE.c 7) .z) <| ye <| qe (rS (rB (rS (rB (rS (rB (rS (rB (rS (rB (rS (rB (rS (yR1 (.bool ((p.text).toList == (ByteArray.empty).toList)) ?_)))))))))))))); refine ⟨zc ?_, Up.ch ao⟩; unfold qt qby
      try rw [show (p.text.toList == ByteArray.empty.toList) = zb p.text from rfl]
      simp [g, h, j, al, an, bM, cG]
     have cH : (p.params.length == 0) = false := by rw [hl]; first | (rw [beq_iff_eq]; omega) | (rw [beq_eq_false_iff_ne]; omega)
     refine yz 12 <| qe (rS (rB (rS (rB (rS (rB (rS (rB (rS (rB (rS (rB (rS (yR1 (.bool false) ?_)))))))))))))); refine ⟨zc ?_, Up.ch ao⟩; unfold qt qby
     try rw [show (p.text.toList == ByteArray.empty.toList) = zb p.text from rfl]
     simp [g, h, j, al, an, bM, cH]
    have cI := ap; refine yz 12 <| qe (rS (rB (rS (rB (rS (rB (rS (rB (rS (rB (rS (rB (rS (yR1 (.bool false) ?_)))))))))))))); refine ⟨zc ?_, Up.ch ao⟩; unfold qt qby
    try rw [show (p.text.toList == ByteArray.empty.toList) = zb p.text from rfl]
    simp [g, h, j, al, an, cI]
   have dE := am; exfalso; omega
  have D := U; refine yp 13 [] (.l (d.c 0) .z) <| yw [30] (rI p.state 0) (fun aq => ?_) fun aq => ?_
  ·have E := aq; refine yz 17 <| yc (rN (rY ((((p.utf.b0 : Int) == 0) && (((p.utf.b1 : Int) == 0) && (((p.utf.b2 : Int) == 0) && true))) && (((p.utf.n : Int) == 0) && true)))) (fun ar => ?_) fun ar => ?_
   ·have cJ : qcE p.utf = false := by rw [← ar]; unfold qcE; simp [Bool.and_assoc]
    refine yx 1 <| qe (rS (yR1 (.bool false) ?_)); refine ⟨zc ?_, Up.ch f⟩; unfold qt qby
    try rw [show (p.text.toList == ByteArray.empty.toList) = zb p.text from rfl]
    simp [g, D, E, cJ]
   have I : qcE p.utf = true := by rw [← ar]; unfold qcE; simp [Bool.and_assoc]
   refine yk <| ys <| ysr <| yp 2 [] (.l (d.c 0) .z) <| ye <| q8 <| ys <| q8 <| ys <| q8 <| ys <| q8 <| ys <| q8 <| ys <| q8 <| ys <| q8 <| ys <| ys <| yx 2 <| yc (rE p.state 0) (fun au => ?_) fun au => ?_
   ·have dF := au; exfalso; omega
   have J := au; refine yk <| ys <| yx 2 <| yc (rE p.state 1) (fun av => ?_) fun av => ?_
   ·have dG := av; exfalso; omega
   have K := av; refine yk <| ys <| yx 2 <| yc (rE p.state 2) (fun aw => ?_) fun aw => ?_
   ·have dH := aw; exfalso; omega
   have L := aw; refine yk <| ys <| ys <| yx 2 <| yc (rE p.state 3) (fun ax => ?_) fun ax => ?_
   ·have dI := ax; exfalso; omega
   have M := ax; refine q7 <| yz 2 <| yc (rE p.state 4) (fun ay => ?_) fun ay => ?_
   ·have dJ := ay; exfalso; omega
   have N := ay; refine yk <| ys <| yx 2 <| yc (rE p.state 7) (fun az => ?_) fun az => ?_
   ·have O := az; refine qo (eS (eS (eB (eS (eB (eS (eB (eS (eB (eS (qd (nS ?_)))))))))))); refine ysr <| yp 4 [] (.l (d.c 8) .z) <| yw [95] (rI p.within 5) (fun aA => ?_) fun aA => ?_
    ·have aB := aA; refine yp 8 [] (.l (d.c 8) .z) <| ye <| yc (rI p.within 6) (fun aC => ?_) fun aC => ?_
     ·have cK := aC; refine yx 1 <| qe (rB (rS (rB (rS (yR1 (.bool false) ?_))))); refine ⟨zc ?_, Up.ch f⟩; unfold qt qby
      try rw [show (p.text.toList == ByteArray.empty.toList) = zb p.text from rfl]
      simp [g, D, E, I, J, K, L, M, N, O, aB, cK]
     have bN := aC; refine qr (nB (nS ?_)); refine ys <| ysr <| yq 2 <| yw [101] (rE ((pn : Nat) : Int) 0) (fun cL => ?_) fun cL => ?_
     ·have cM : (p.params.length == 0) = true := by rw [hl]; first | (rw [beq_iff_eq]; omega) | (rw [beq_eq_false_iff_ne]; omega)
      refine yp 3 [] (.a (d.cs 0 9) .z) <| yo (yQ (qjx p pa pn pc _ htz) fun dK cN => ?_); have cO := zu f cN iZ; refine yz 6 <| qe (rS (rB (rS (yR1 (.bool (qef p.text)) ?_)))); refine ⟨zc ?_, Up.ch cO⟩; unfold qt qby
      try rw [show (p.text.toList == ByteArray.empty.toList) = zb p.text from rfl]
      simp [g, D, E, I, J, K, L, M, N, O, aB, bN, cM]
     have cP : (p.params.length == 0) = false := by rw [hl]; first | (rw [beq_iff_eq]; omega) | (rw [beq_eq_false_iff_ne]; omega)
     refine yz 6 <| qe (rS (rB (rS (yR1 (.bool false) ?_)))); refine ⟨zc ?_, Up.ch f⟩; unfold qt qby
     try rw [show (p.text.toList == ByteArray.empty.toList) = zb p.text from rfl]
     simp [g, D, E, I, J, K, L, M, N, O, aB, bN, cP]
    have bO := aA; refine yz 8 <| ycf <| qr (nB (nS ?_)); refine ys <| ysr <| yq 2 <| yw [101] (rE ((pn : Nat) : Int) 0) (fun cQ => ?_) fun cQ => ?_
    ·have cR : (p.params.length == 0) = true := by rw [hl]; first | (rw [beq_iff_eq]; omega) | (rw [beq_eq_false_iff_ne]; omega)
     refine yp 3 [] (.a (d.cs 0 9) .z) <| yo (yQ (qjx p pa pn pc _ htz) fun dL cS => ?_); have cT := zu f cS iZ; refine yz 6 <| qe (rS (rB (rS (yR1 (.bool (qef p.text)) ?_)))); refine ⟨zc ?_, Up.ch cT⟩; unfold qt qby
     try rw [show (p.text.toList == ByteArray.empty.toList) = zb p.text from rfl]
     simp [g, D, E, I, J, K, L, M, N, O, bO, cR]
    have cU : (p.params.length == 0) = false := by rw [hl]; first | (rw [beq_iff_eq]; omega) | (rw [beq_eq_false_iff_ne]; omega)
    refine yz 6 <| qe (rS (rB (rS (yR1 (.bool false) ?_)))); refine ⟨zc ?_, Up.ch f⟩; unfold qt qby
    try rw [show (p.text.toList == ByteArray.empty.toList) = zb p.text from rfl]
    simp [g, D, E, I, J, K, L, M, N, O, bO, cU]
   have dM := az; exfalso; omega
  have dN := aq; exfalso; omega
 have i : zb p.marks = false := T; refine yz 10 <| ys <| ysr <| yp 4 [] (.l (d.c 0) .z) <| yw [21] (rI p.state 7) (fun aD => ?_) fun aD => ?_
 ·have m := aD; refine yp 9 [] (.l (d.c 8) .z) <| yw [26] (rI p.within 0) (fun aE => ?_) fun aE => ?_
  ·have cV := aE; refine yz 17 <| yct <| yx 1 <| qe (rS (yR1 (.bool false) ?_)); refine ⟨zc ?_, Up.ch f⟩; unfold qt qby
   try rw [show (p.text.toList == ByteArray.empty.toList) = zb p.text from rfl]
   simp [i, m, cV]
  have s := aE; refine yp 13 [] (.l (d.c 0) .z) <| yw [30] (rI p.state 0) (fun aF => ?_) fun aF => ?_
  ·have u := aF; refine yz 17 <| yc (rN (rY ((((p.utf.b0 : Int) == 0) && (((p.utf.b1 : Int) == 0) && (((p.utf.b2 : Int) == 0) && true))) && (((p.utf.n : Int) == 0) && true)))) (fun aG => ?_) fun aG => ?_
   ·have cW : qcE p.utf = false := by rw [← aG]; unfold qcE; simp [Bool.and_assoc]
    refine yx 1 <| qe (rS (yR1 (.bool false) ?_)); refine ⟨zc ?_, Up.ch f⟩; unfold qt qby
    try rw [show (p.text.toList == ByteArray.empty.toList) = zb p.text from rfl]
    simp [i, m, s, u, cW]
   have v : qcE p.utf = true := by rw [← aG]; unfold qcE; simp [Bool.and_assoc]
   refine yk <| ys <| ysr <| yp 2 [] (.l (d.c 0) .z) <| ye <| q8 <| ys <| q8 <| ys <| q8 <| ys <| q8 <| ys <| q8 <| ys <| q8 <| ys <| q8 <| ys <| ys <| yx 2 <| yc (rE p.state 0) (fun aH => ?_) fun aH => ?_
   ·have dO := aH; exfalso; omega
   have x := aH; refine yk <| ys <| yx 2 <| yc (rE p.state 1) (fun aI => ?_) fun aI => ?_
   ·have cX := aI; refine qo (eS (eS (eB (eS (qd (nS ?_)))))); refine ys <| yx 7 <| qe (rS (rB (rS (rB (rS (rB (rS (rB (rS (rB (rS (yR1 (.bool false) ?_)))))))))))); refine ⟨zc ?_, Up.ch f⟩; unfold qt qby
    try rw [show (p.text.toList == ByteArray.empty.toList) = zb p.text from rfl]
    simp [i, m, s, u, v, x, cX]
   have y := aI; refine yk <| ys <| yx 2 <| yc (rE p.state 2) (fun aJ => ?_) fun aJ => ?_
   ·have aK := aJ; refine qo (eS (eS (eB (eS (eB (eS (qd (nS ?_)))))))); refine ys <| ysr <| yp 1 [] (.a (d.cs 0 9) .z) <| yo (yQ (qg9 p pa pn pc _) fun dP bP => ?_); have aL := zu f bP iZ; have bQ := d.ch bP id; refine yq 3 <| yw [70] (rY (qb4 1 qiG p.marks)) (fun aM => ?_) fun aM => ?_
    ·have bR := aM; refine yp 9 [] (.l (bQ.c 6) .z) <| yw [76] (rE ((pn : Nat) : Int) 0) (fun cY => ?_) fun cY => ?_
     ·have cZ : (p.params.length == 0) = true := by rw [hl]; first | (rw [beq_iff_eq]; omega) | (rw [beq_eq_false_iff_ne]; omega)
      refine yp 14 [] (.l (bQ.c 7) .z) <| ye <| qe (rS (rB (rS (rB (rS (rB (rS (rB (rS (yR1 (.bool ((p.text).toList == (ByteArray.empty).toList)) ?_)))))))))); refine ⟨zc ?_, Up.ch aL⟩; unfold qt qby
      try rw [show (p.text.toList == ByteArray.empty.toList) = zb p.text from rfl]
      simp [i, m, s, u, v, x, y, aK, bR, cZ]
     have d0 : (p.params.length == 0) = false := by rw [hl]; first | (rw [beq_iff_eq]; omega) | (rw [beq_eq_false_iff_ne]; omega)
     refine yz 14 <| qe (rS (rB (rS (rB (rS (rB (rS (rB (rS (yR1 (.bool false) ?_)))))))))); refine ⟨zc ?_, Up.ch aL⟩; unfold qt qby
     try rw [show (p.text.toList == ByteArray.empty.toList) = zb p.text from rfl]
     simp [i, m, s, u, v, x, y, aK, bR, d0]
    have d1 := aM; refine yz 14 <| qe (rS (rB (rS (rB (rS (rB (rS (rB (rS (yR1 (.bool false) ?_)))))))))); refine ⟨zc ?_, Up.ch aL⟩; unfold qt qby
    try rw [show (p.text.toList == ByteArray.empty.toList) = zb p.text from rfl]
    simp [i, m, s, u, v, x, y, aK, d1]
   have B := aJ; refine yk <| ys <| ys <| yx 2 <| yc (rE p.state 3) (fun aN => ?_) fun aN => ?_
   ·have aO := aN; refine yk <| yc (rE p.state 3) (fun aP => ?_) fun aP => ?_
    ·have aQ := aP; refine qo (eS (eS (eB (eS (eB (eS (eB (eS (qd (nS ?_)))))))))); refine ys <| ysr <| yp 1 [] (.a (d.cs 0 9) .z) <| yo (yQ (qcx p pa pn pc _) fun dQ aR => ?_); have bS := zu f aR iZ; have d2 := Rd.ch P aR iZ; have bT := d.ch aR id; refine yq 3 <| yw [83] (rY (qb4 0 qbE p.marks)) (fun aS => ?_) fun aS => ?_
     ·have bU := aS; refine yp 4 [] (.a (bT.cs 0 9) .z) <| yo (yQ (qeM p pa pn pc _ d2 hl hz hn) fun dR bV => ?_); have bW := zu bS bV iZ; have d3 := bT.ch bV id; refine yq 7 <| yw [87] (rY (qex p.params)) (fun aT => ?_) fun aT => ?_
      ·have d4 := aT; refine yp 12 [] (.l (d3.c 7) .z) <| ye <| qe (rS (rB (rS (rB (rS (rB (rS (yR1 (.bool ((p.text).toList == (ByteArray.empty).toList)) ?_)))))))); refine ⟨zc ?_, Up.ch bW⟩; unfold qt qby
       try rw [show (p.text.toList == ByteArray.empty.toList) = zb p.text from rfl]
       simp [i, m, s, u, v, x, y, B, aO, aQ, bU, d4]
      have d5 := aT; refine yz 12 <| qe (rS (rB (rS (rB (rS (rB (rS (yR1 (.bool false) ?_)))))))); refine ⟨zc ?_, Up.ch bW⟩; unfold qt qby
      try rw [show (p.text.toList == ByteArray.empty.toList) = zb p.text from rfl]
      simp [i, m, s, u, v, x, y, B, aO, aQ, bU, d5]
     have d6 := aS; refine yz 12 <| qe (rS (rB (rS (rB (rS (rB (rS (yR1 (.bool false) ?_)))))))); refine ⟨zc ?_, Up.ch bS⟩; unfold qt qby
     try rw [show (p.text.toList == ByteArray.empty.toList) = zb p.text from rfl]
     simp [i, m, s, u, v, x, y, B, aO, aQ, d6]
    have dS := aP; exfalso; omega
   have F := aN; refine q7 <| yz 2 <| yc (rE p.state 4) (fun aU => ?_) fun aU => ?_
   ·have aV := aU; refine qo (eS (eS (eB (eS (eB (eS (eB (eS (qd (nS ?_)))))))))); refine ys <| ysr <| yp 1 [] (.a (d.cs 0 9) .z) <| yo (yQ (qcx p pa pn pc _) fun dT aW => ?_); have bX := zu f aW iZ; have d7 := Rd.ch P aW iZ; have bY := d.ch aW id; refine yq 3 <| yw [83] (rY (qb4 0 qbE p.marks)) (fun aX => ?_) fun aX => ?_
    ·have bZ := aX; refine yp 4 [] (.a (bY.cs 0 9) .z) <| yo (yQ (qeM p pa pn pc _ d7 hl hz hn) fun dU c0 => ?_); have c1 := zu bX c0 iZ; have d8 := bY.ch c0 id; refine yq 7 <| yw [87] (rY (qex p.params)) (fun aY => ?_) fun aY => ?_
     ·have d9 := aY; refine yp 12 [] (.l (d8.c 7) .z) <| ye <| qe (rS (rB (rS (rB (rS (rB (rS (yR1 (.bool ((p.text).toList == (ByteArray.empty).toList)) ?_)))))))); refine ⟨zc ?_, Up.ch c1⟩; unfold qt qby
      try rw [show (p.text.toList == ByteArray.empty.toList) = zb p.text from rfl]
      simp [i, m, s, u, v, x, y, B, F, aV, bZ, d9]
     have da := aY; refine yz 12 <| qe (rS (rB (rS (rB (rS (rB (rS (yR1 (.bool false) ?_)))))))); refine ⟨zc ?_, Up.ch c1⟩; unfold qt qby
     try rw [show (p.text.toList == ByteArray.empty.toList) = zb p.text from rfl]
     simp [i, m, s, u, v, x, y, B, F, aV, bZ, da]
    have db := aX; refine yz 12 <| qe (rS (rB (rS (rB (rS (rB (rS (yR1 (.bool false) ?_)))))))); refine ⟨zc ?_, Up.ch bX⟩; unfold qt qby
    try rw [show (p.text.toList == ByteArray.empty.toList) = zb p.text from rfl]
    simp [i, m, s, u, v, x, y, B, F, aV, db]
   have aZ := aU; refine yk <| ys <| yx 2 <| yc (rE p.state 7) (fun b3 => ?_) fun b3 => ?_
   ·have dV := b3; exfalso; omega
   have b4 := b3; refine yk <| ys <| yx 2 <| yc (rE p.state 5) (fun b5 => ?_) fun b5 => ?_
   ·have dc := b5; refine yk <| yc (rE p.state 5) (fun b6 => ?_) fun b6 => ?_
    ·have dd := b6; refine qo (eS (eB (eS (eB (eS (eB (eS (eB (eS (eB (eS (qd (nS ?_))))))))))))); refine ys <| yx 6 <| qe (rS (rB (rS (yR1 (.bool false) ?_)))); refine ⟨zc ?_, Up.ch f⟩; unfold qt qby
     try rw [show (p.text.toList == ByteArray.empty.toList) = zb p.text from rfl]
     simp [i, m, s, u, v, x, y, B, F, aZ, b4, dc, dd]
    have dW := b6; exfalso; omega
   have c2 := b5; refine q7 <| yz 2 <| yc (rE p.state 6) (fun b7 => ?_) fun b7 => ?_
   ·have de := b7; refine qo (eS (eB (eS (eB (eS (eB (eS (eB (eS (eB (eS (qd (nS ?_))))))))))))); refine ys <| yx 6 <| qe (rS (rB (rS (yR1 (.bool false) ?_)))); refine ⟨zc ?_, Up.ch f⟩; unfold qt qby
    try rw [show (p.text.toList == ByteArray.empty.toList) = zb p.text from rfl]
    simp [i, m, s, u, v, x, y, B, F, aZ, b4, c2, de]
   have df := b7; refine yk <| qo (eB (eS (eB (eS (eB (eS (eB (eS (eB (eS (eB (eS (qd (nS ?_)))))))))))))); refine yx 1 <| qe (yR1 (.bool false) ?_); refine ⟨zc ?_, Up.ch f⟩; unfold qt qby
   try rw [show (p.text.toList == ByteArray.empty.toList) = zb p.text from rfl]
   simp [i, m, s, u, v, x, y, B, F, aZ, b4, c2, df]
  have c3 := aF; refine yz 17 <| ycf <| yk <| ys <| ysr <| yp 2 [] (.l (d.c 0) .z) <| ye <| q8 <| ys <| q8 <| ys <| q8 <| ys <| q8 <| ys <| q8 <| ys <| q8 <| ys <| q8 <| ys <| ys <| yx 2 <| yc (rE p.state 0) (fun b8 => ?_) fun b8 => ?_
  ·have c4 := b8; refine qo (eS (eS (qd (nS ?_)))); refine ys <| ysr <| yp 2 [] (.a (d.cs 1 4) .z) <| yo (yQ (qmm p.utf _ bs ho) fun dX dg => ?_); have c5 := zu f dg iZ; refine yq 4 <| yw [54] (rY (utB p.utf)) (fun b9 => ?_) fun b9 => ?_
   ·have dh := b9; refine yz 12 <| qe (rS (rB (rS (rB (rS (rB (rS (rB (rS (rB (rS (rB (rS (yR1 (.bool false) ?_)))))))))))))); refine ⟨zc ?_, Up.ch c5⟩; unfold qt qby
    try rw [show (p.text.toList == ByteArray.empty.toList) = zb p.text from rfl]
    simp [i, m, s, c3, c4, dh]
   have di := b9; refine yz 12 <| qe (rS (rB (rS (rB (rS (rB (rS (rB (rS (rB (rS (rB (rS (yR1 (.bool false) ?_)))))))))))))); refine ⟨zc ?_, Up.ch c5⟩; unfold qt qby
   try rw [show (p.text.toList == ByteArray.empty.toList) = zb p.text from rfl]
   simp [i, m, s, c3, c4, di]
  have dY := b8; exfalso; omega
 have Q := aD; refine yp 13 [] (.l (d.c 0) .z) <| yw [30] (rI p.state 0) (fun ba => ?_) fun ba => ?_
 ·have R := ba; refine yz 17 <| yc (rN (rY ((((p.utf.b0 : Int) == 0) && (((p.utf.b1 : Int) == 0) && (((p.utf.b2 : Int) == 0) && true))) && (((p.utf.n : Int) == 0) && true)))) (fun bb => ?_) fun bb => ?_
  ·have dj : qcE p.utf = false := by rw [← bb]; unfold qcE; simp [Bool.and_assoc]
   refine yx 1 <| qe (rS (yR1 (.bool false) ?_)); refine ⟨zc ?_, Up.ch f⟩; unfold qt qby
   try rw [show (p.text.toList == ByteArray.empty.toList) = zb p.text from rfl]
   simp [i, Q, R, dj]
  have bc : qcE p.utf = true := by rw [← bb]; unfold qcE; simp [Bool.and_assoc]
  refine yk <| ys <| ysr <| yp 2 [] (.l (d.c 0) .z) <| ye <| q8 <| ys <| q8 <| ys <| q8 <| ys <| q8 <| ys <| q8 <| ys <| q8 <| ys <| q8 <| ys <| ys <| yx 2 <| yc (rE p.state 0) (fun bd => ?_) fun bd => ?_
  ·have dZ := bd; exfalso; omega
  have bf := bd; refine yk <| ys <| yx 2 <| yc (rE p.state 1) (fun bg => ?_) fun bg => ?_
  ·have e0 := bg; exfalso; omega
  have bh := bg; refine yk <| ys <| yx 2 <| yc (rE p.state 2) (fun bi => ?_) fun bi => ?_
  ·have e1 := bi; exfalso; omega
  have bj := bi; refine yk <| ys <| ys <| yx 2 <| yc (rE p.state 3) (fun bk => ?_) fun bk => ?_
  ·have e2 := bk; exfalso; omega
  have bl := bk; refine q7 <| yz 2 <| yc (rE p.state 4) (fun bm => ?_) fun bm => ?_
  ·have e3 := bm; exfalso; omega
  have bn := bm; refine yk <| ys <| yx 2 <| yc (rE p.state 7) (fun bo => ?_) fun bo => ?_
  ·have bp := bo; refine qo (eS (eS (eB (eS (eB (eS (eB (eS (eB (eS (qd (nS ?_)))))))))))); refine ysr <| yp 4 [] (.l (d.c 8) .z) <| yw [95] (rI p.within 5) (fun bq => ?_) fun bq => ?_
   ·have c6 := bq; refine yp 8 [] (.l (d.c 8) .z) <| ye <| yc (rI p.within 6) (fun br => ?_) fun br => ?_
    ·have dk := br; refine yx 1 <| qe (rB (rS (rB (rS (yR1 (.bool false) ?_))))); refine ⟨zc ?_, Up.ch f⟩; unfold qt qby
     try rw [show (p.text.toList == ByteArray.empty.toList) = zb p.text from rfl]
     simp [i, Q, R, bc, bf, bh, bj, bl, bn, bp, c6, dk]
    have dl := br; refine qr (nB (nS ?_)); refine ys <| yx 6 <| qe (rS (rB (rS (yR1 (.bool false) ?_)))); refine ⟨zc ?_, Up.ch f⟩; unfold qt qby
    try rw [show (p.text.toList == ByteArray.empty.toList) = zb p.text from rfl]
    simp [i, Q, R, bc, bf, bh, bj, bl, bn, bp, c6, dl]
   have dm := bq; refine yz 8 <| ycf <| qr (nB (nS ?_)); refine ys <| yx 6 <| qe (rS (rB (rS (yR1 (.bool false) ?_)))); refine ⟨zc ?_, Up.ch f⟩; unfold qt qby
   try rw [show (p.text.toList == ByteArray.empty.toList) = zb p.text from rfl]
   simp [i, Q, R, bc, bf, bh, bj, bl, bn, bp, dm]
  have e4 := bo; exfalso; omega
 have e5 := ba; exfalso; omega
theorem qdc {P : Program} {N : Nat} {Q : Exit → Act → World → Prop} {f : Fr} {w : World} {x y : Code} {σ : Type} (f' : σ → Fr) (I : σ → World → Prop)
  (h1 : ∀ K : Act → World → Prop, (∀ s u, I s u → ∀ a, Has N (f' s) a → K a u) → WC P N (Exit.then K Q) x f w) (h2 : ∀ s u, I s u → WC P N Q y (f' s) u) : WC P N Q (.seq x y) f w :=
 x_seq fun K hK => h1 K fun s u hI a ha => hK (f' s) u (h2 s u hI) a ha
abbrev tSr : TypeId := 77
structure RowO where
 b : Option Nat
 n : Nat
 cap : Nat
 l : List Cel
def RowO.val (x : RowO) : Value := .slice (x.b.map at0) x.n x.cap
structure RowsO (w : World) (m : Nat) (rows : List RowO) : Prop where
 line : ∀ x ∈ rows, Own w qcH 6 x.b x.n x.cap (qa6 x.l) ∧ x.l.length = x.n
 lo : ∀ x ∈ rows, ∀ b, x.b = some b → m ≤ b
 nd : rows.Pairwise fun x y => ∀ b, x.b = some b → y.b ≠ some b
structure OutO (w : World) (m : Nat) (o : Option Nat) (n cap : Nat) (rows : List RowO) : Prop where
 own : Own w qbF 1 o n cap (rows.map RowO.val)
 lo : ∀ b, o = some b → m ≤ b
 rs : RowsO w m rows
theorem rowO_one (rows : List RowO) : ((rows.map RowO.val).all fun c => c.oneCell') = true := by
 refine List.all_eq_true.2 fun v hv => ?_
 obtain ⟨x, _, rfl⟩ := List.mem_map.1 hv
 rfl
section
variable {w w' : World} {m n cap : Nat} {o : Option Nat} {rows : List RowO} {B : Nat → Prop}
theorem OutO.nil (w : World) (m : Nat) : OutO w m none 0 0 [] := ⟨Own.nil _ _ _, (fun b e => by cases e), ⟨(fun x hx => by cases hx), (fun x hx => by cases hx), List.Pairwise.nil⟩⟩
theorem RowsO.ch (h : RowsO w m rows) (hc : Ch B w w') (hB : ∀ x ∈ rows, ∀ b, x.b = some b → ¬ B b) : RowsO w' m rows :=
 ⟨fun x hx => ⟨(h.line x hx).1.ch hc fun g e => hB x hx g e, (h.line x hx).2⟩, h.lo, h.nd⟩
theorem RowsO.lt (h : RowsO w m rows) : ∀ x ∈ rows, ∀ b, x.b = some b → b < w.heap.size := fun x hx b e => by
 have := (h.line x hx).1
 rw [e] at this
 exact this.lt
theorem OutO.ch (h : OutO w m o n cap rows) (hc : Ch B w w') (hB : ∀ b, m ≤ b → b < w.heap.size → ¬ B b) : OutO w' m o n cap rows :=
 ⟨h.own.ch hc fun g e => hB g (h.lo g e) (by have := h.own; rw [e] at this; exact this.lt), h.lo, h.rs.ch hc fun x hx b e => hB b (h.rs.lo x hx b e) (h.rs.lt x hx b e)⟩
theorem OutO.len (h : OutO w m o n cap rows) : rows.length = n := by
 have := h.own.1
 rwa [List.length_map, Nat.mul_one] at this
theorem OutO.low {m' : Nat} (h : OutO w m o n cap rows) (hm : m' ≤ m) : OutO w m' o n cap rows :=
 ⟨h.own, fun b e => Nat.le_trans hm (h.lo b e), ⟨h.rs.line, fun x hx b e => Nat.le_trans hm (h.rs.lo x hx b e), h.rs.nd⟩⟩
theorem OutO.off (h : OutO w m o n cap rows) {e : Option Nat} {k c : Nat} {xs : List Value} (ho : Own w qbF 1 e k c xs) : ∀ x ∈ rows, ∀ b, x.b = some b → ¬ e = some b := fun x hx b hb he => by
 obtain ⟨h1, h2⟩ := h.rs.line x hx
 rw [hb] at h1
 obtain ⟨r1, _, k1⟩ := h1.2.2.2.2 b rfl
 obtain ⟨r2, _, k2⟩ := ho.2.2.2.2 b he
 exact tys (k2.inj k1).2
theorem OutO.app {o' : Option Nat} {cap' n' : Nat} {rows' : List RowO} (h : OutO w m o n cap rows) (hr : RowsO w m rows') (hm : m ≤ w.heap.size) (hd : ∀ x ∈ rows, ∀ y ∈ rows', ∀ b, x.b = some b → y.b ≠ some b)
  (hO : Own w' qbF 1 o' n' cap' ((rows ++ rows').map RowO.val)) (hA : App w w' o o') : OutO w' m o' n' cap' (rows ++ rows') := by
 have hoff' : ∀ x ∈ rows', ∀ b, x.b = some b → ¬ o = some b := fun x hx b hb he => by
  obtain ⟨h1, h2⟩ := hr.line x hx
  rw [hb] at h1
  obtain ⟨r1, _, k1⟩ := h1.2.2.2.2 b rfl
  obtain ⟨r2, _, k2⟩ := h.own.2.2.2.2 b he
  exact tys (k2.inj k1).2
 refine ⟨hO, fun b e => ?_, ⟨fun x hx => ?_, fun x hx => ?_, ?_⟩⟩
 ·rcases hA.ne with rfl | ⟨g, rfl, hg⟩
  ·exact h.lo b e
  ·have := Option.some.inj e; omega
 ·rcases List.mem_append.1 hx with hx | hx
  ·exact ⟨(h.rs.line x hx).1.ch hA.ch fun g e => h.off h.own x hx g e, (h.rs.line x hx).2⟩
  ·exact ⟨(hr.line x hx).1.ch hA.ch fun g e => hoff' x hx g e, (hr.line x hx).2⟩
 ·rcases List.mem_append.1 hx with hx | hx
  ·exact h.rs.lo x hx
  ·exact hr.lo x hx
 ·exact List.pairwise_append.2 ⟨h.rs.nd, hr.nd, fun x hx y hy => hd x hx y hy⟩
theorem RowsO.one {b : Option Nat} {k c : Nat} {l : List Cel} (h : Own w qcH 6 b k c (qa6 l)) (hl : l.length = k) (hlo : ∀ y, b = some y → m ≤ y) : RowsO w m [⟨b, k, c, l⟩] :=
 ⟨fun x hx => by rw [List.mem_singleton.1 hx]; exact ⟨h, hl⟩, fun x hx => by rw [List.mem_singleton.1 hx]; exact hlo, List.pairwise_singleton _ _⟩
end
structure SrIn (w : World) (sr rv D : Nat) (fine : Bool) (s : RS) : Prop where
 blk : Blk w sr [.pointer (some ⟨rv, 0, none⟩), .bool fine] tSr
 rd : RdrAt w rv D s
 ne : ¬ sr = rv
 nd : ¬ sr = D
def srB (sr rv : Nat) : Nat → Prop := fun j => j = sr ∨ j = rv
set_option maxHeartbeats 4000000 in
theorem qdp {sr rv D : Nat} {s0 s1 : RS} {fine ok : Bool} {c : Cur} {W H : Int} {w : World} (hS : SrIn w sr rv D fine s0) (hC : qi3 W H s0 = (c, ok, s1)) (hW : 1 ≤ W ∧ W ≤ 60) (hH : 1 ≤ H ∧ H ≤ 60) : Calls Tryz.prog 33 [pX sr, iX W, iX H].toArray w fun e w' =>
 e = .returned (.agg #[iX c.x, iX c.y, .bool c.late, .bool c.sty.bold, .bool c.sty.under, .bool c.sty.turned, iX c.sty.fore, iX c.sty.back]) ∧ SrIn w' sr rv D (fine && ok) s1 ∧ Ch (srB sr rv) w w' := by
 obtain ⟨g, u1, E⟩ : ∃ x s', qP W s0 = (x, s') := ⟨_, _, rfl⟩
 obtain ⟨n, u2, v⟩ : ∃ x s', qP H u1 = (x, s') := ⟨_, _, rfl⟩
 obtain ⟨k, u3, p⟩ : ∃ x s', qP 2 u2 = (x, s') := ⟨_, _, rfl⟩
 have aE := qa7 (lim := W) (s := s0); have aF := qa7 (lim := H) (s := u1); have aG := qa7 (lim := 2) (s := u2); rw [E] at aE; rw [v] at aF; rw [p] at aG; dsimp only at aE aF aG; refine yA Tryz.func33 rfl <| ysr <| yo (yN [iX 0, iX 0, .bool false, .bool false, .bool false, .bool false, iX 0, iX 0] 46 fun aT d aU dP aV ao => ?_); have aW : Ch (srB sr rv) w aT := zt (Ch.refl (srB sr rv) w) ao eZ; have f : w.heap.size ≤ d := by rw [aU]; exact zs (Ch.refl (srB sr rv) w)
 have aX := hS.blk.ch ao id; have aY := hS.rd.ch ao id id; refine ye <| qdc (σ := Nat) (fun m => [(0, pX sr), (1, iX W), (6, pX d), (7, pX m)]) (fun m u => Blk u d [iX 0, iX 0, .bool false, .bool false, .bool false, .bool false, iX 0, iX 0] 46 ∧ Blk u m [iX g, iX n, .bool ((k : Int) == 1), .bool false, .bool false, .bool false, iX 0, iX 0] 46 ∧ Blk u sr [pX rv, .bool fine] tSr ∧ RdrAt u rv D u3 ∧ Ch (srB sr rv) w u ∧ w.heap.size ≤ m ∧ ¬ m = d) (fun dQ a0 => ?_) (fun gs u22 aH => ?_)
 ·refine qG (· = rv) [16, 20] (by kernel_rfl) (fun aZ dR a1 => ?_); have ap : Ch (srB sr rv) w aZ := zt aW a1 eZ; have L := aX.ch a1 id; have aI := aY.ch a1 id id; have a2 := aV.ch a1 id; refine ydC [0, 1, 2, 3, 4, 6, 7, 8, 9, 10, 12, 13, 14, 15] [] (fun u hu => (.l (qf hu (L.c 0) hS.ne) (.l (qf hu (L.c 0) hS.ne) (.l (qf hu (L.c 0) hS.ne) .z)))) <| qba 5 19 (by kernel_rfl) (by decide) ?_ ?_
  ·refine qaG 5 _ (by kernel_rfl) rfl (yQ (qZ (lim := W) aI E (by omega)) ?_); rintro b0 ⟨aJ, a3⟩; have aq : Ch (srB sr rv) w b0 := zt ap a3 (fun _ _ h => .inr h); have aK := L.ch a3 hS.ne; have a4 := a2.ch a3 (fun (h : d = rv) => by have := f; have := hS.rd.lt; omega); refine qj a3 iZ <| qba 11 19 (by kernel_rfl) (by decide) ?_ ?_
   ·refine qaG 11 _ (by kernel_rfl) rfl (yQ (qZ (lim := H) aJ v (by omega)) ?_); rintro b1 ⟨aL, a5⟩; have ar : Ch (srB sr rv) w b1 := zt aq a5 (fun _ _ h => .inr h); have aM := aK.ch a5 hS.ne; have a6 := a4.ch a5 (fun (h : d = rv) => by have := f; have := hS.rd.lt; omega); refine qj a5 iZ <| qba 16 19 (by kernel_rfl) (by decide) ?_ ?_
    ·refine qb1 16 _ (by kernel_rfl) rfl (yQ (qZ (lim := 2) aL p (by omega)) ?_); rintro b2 ⟨b3, au⟩; have aN : Ch (srB sr rv) w b2 := zt ar au (fun _ _ h => .inr h); have b4 := aM.ch au hS.ne; have av := a6.ch au (fun (h : d = rv) => by have := f; have := hS.rd.lt; omega); refine qaH (B := fun j => j = rv) <| ydC [17, 18] [] (fun u hu => .z) <| yH 19 (yN [iX 0, iX 0, .bool false, .bool false, .bool false, .bool false, iX 0, iX 0] 46 fun b5 F b6 dS b8 M => ?_); have b9 : Ch (srB sr rv) w b5 := zt aN M eZ; have N := zn b6 aN; have ba := b4.ch M id; have bb := av.ch M id; have bc := b3.ch M id id; refine qj M eZ <| yK 20 (yT [iX g, iX n, .bool ((k : Int) == 1), .bool false, .bool false, .bool false, iX 0, iX 0] b8 fun bd bf a7 => ?_); have bg : Ch (srB sr rv) w bd := zt b9 a7 (fun i hi (h : i = F) => by have := N; omega); have bh := ba.ch a7 (fun (h : sr = F) => by have := N; have := hS.blk.lt; omega); have bi := bb.ch a7 (fun (h : d = F) => by have := av.lt; omega); have bj := bc.ch a7 (fun (h : rv = F) => by have := N; have := hS.rd.lt; omega) (fun (h : D = F) => by have := N; have := hS.rd.dlt; omega); refine q9 <| yDe (fun a ha => a0 F _ ⟨bi, bf, bh, bj, bg, N, (fun (h : F = d) => by have := av.lt; omega)⟩ a (ha.kp [0, 1, 6, 7]))
    refine qaG 19 _ (by kernel_rfl) rfl (yN [iX 0, iX 0, .bool false, .bool false, .bool false, .bool false, iX 0, iX 0] 46 fun bk A bl dT bm O => ?_); have bn : Ch (srB sr rv) w bk := zt ar O eZ; have I := zn bl ar; have bo := aM.ch O id; have bp := a6.ch O id; have bq := aL.ch O id id; refine qj O eZ <| yK 16 (yQ (qZ (lim := 2) bq p (by omega)) ?_); rintro br ⟨bs, a8⟩; have bt : Ch (srB sr rv) w br := zt bn a8 (fun _ _ h => .inr h); have bu := bo.ch a8 hS.ne; have bv := bp.ch a8 (fun (h : d = rv) => by have := f; have := hS.rd.lt; omega); have bw := bm.ch a8 (fun (h : A = rv) => by have := I; have := hS.rd.lt; omega); refine q9 <| yd [17, 18] [] .z <| yK 20 (yT [iX g, iX n, .bool ((k : Int) == 1), .bool false, .bool false, .bool false, iX 0, iX 0] bw fun bx bz a9 => ?_); have bA : Ch (srB sr rv) w bx := zt bt a9 (fun i hi (h : i = A) => by have := I; omega); have bB := bu.ch a9 (fun (h : sr = A) => by have := I; have := hS.blk.lt; omega); have bC := bv.ch a9 (fun (h : d = A) => by have := a6.lt; omega); have bD := bs.ch a9 (fun (h : rv = A) => by have := I; have := hS.rd.lt; omega) (fun (h : D = A) => by have := I; have := hS.rd.dlt; omega); refine q9 <| yDe (fun a ha => a0 A _ ⟨bC, bz, bB, bD, bA, I, (fun (h : A = d) => by have := a6.lt; omega)⟩ a (ha.kp [0, 1, 6, 7]))
   refine qaG 19 _ (by kernel_rfl) rfl (yN [iX 0, iX 0, .bool false, .bool false, .bool false, .bool false, iX 0, iX 0] 46 fun bE q bF dU bG P => ?_); have bH : Ch (srB sr rv) w bE := zt aq P eZ; have G := zn bF aq; have bI := aK.ch P id; have bJ := a4.ch P id; have bK := aJ.ch P id id; refine qj P eZ <| yH 11 (yQ (qZ (lim := H) bK v (by omega)) ?_); rintro bL ⟨bM, Q⟩; have bN : Ch (srB sr rv) w bL := zt bH Q (fun _ _ h => .inr h); have bO := bI.ch Q hS.ne; have bP := bJ.ch Q (fun (h : d = rv) => by have := f; have := hS.rd.lt; omega); have bQ := bG.ch Q (fun (h : q = rv) => by have := G; have := hS.rd.lt; omega); refine qj Q iZ <| yK 16 (yQ (qZ (lim := 2) bM p (by omega)) ?_); rintro bR ⟨bS, aa⟩; have bT : Ch (srB sr rv) w bR := zt bN aa (fun _ _ h => .inr h); have bU := bO.ch aa hS.ne; have bV := bP.ch aa (fun (h : d = rv) => by have := f; have := hS.rd.lt; omega); have bW := bQ.ch aa (fun (h : q = rv) => by have := G; have := hS.rd.lt; omega); refine q9 <| yd [17, 18] [] .z <| yK 20 (yT [iX g, iX n, .bool ((k : Int) == 1), .bool false, .bool false, .bool false, iX 0, iX 0] bW fun bX bY ab => ?_); have bZ : Ch (srB sr rv) w bX := zt bT ab (fun i hi (h : i = q) => by have := G; omega); have c0 := bU.ch ab (fun (h : sr = q) => by have := G; have := hS.blk.lt; omega); have c1 := bV.ch ab (fun (h : d = q) => by have := a4.lt; omega); have c2 := bS.ch ab (fun (h : rv = q) => by have := G; have := hS.rd.lt; omega) (fun (h : D = q) => by have := G; have := hS.rd.dlt; omega)
   refine q9 <| yDe (fun a ha => a0 q _ ⟨c1, bY, c0, c2, bZ, G, (fun (h : q = d) => by have := a4.lt; omega)⟩ a (ha.kp [0, 1, 6, 7]))
  refine qaG 19 _ (by kernel_rfl) rfl (yN [iX 0, iX 0, .bool false, .bool false, .bool false, .bool false, iX 0, iX 0] 46 fun c3 o c4 dV c5 R => ?_); have c6 : Ch (srB sr rv) w c3 := zt ap R eZ; have C := zn c4 ap; have c7 := L.ch R id; have c8 := aI.ch R id id; have c9 := a2.ch R id; refine qj R eZ <| yH 5 (yQ (qZ (lim := W) c8 E (by omega)) ?_); rintro ca ⟨cb, S⟩; have cc : Ch (srB sr rv) w ca := zt c6 S (fun _ _ h => .inr h); have cd := c7.ch S hS.ne; have ce := c9.ch S (fun (h : d = rv) => by have := f; have := hS.rd.lt; omega); have cf := c5.ch S (fun (h : o = rv) => by have := C; have := hS.rd.lt; omega); refine qj S iZ <| yH 11 (yQ (qZ (lim := H) cb v (by omega)) ?_); rintro cg ⟨ci, T⟩; have cj : Ch (srB sr rv) w cg := zt cc T (fun _ _ h => .inr h); have ck := cd.ch T hS.ne; have cl := ce.ch T (fun (h : d = rv) => by have := f; have := hS.rd.lt; omega); have cm := cf.ch T (fun (h : o = rv) => by have := C; have := hS.rd.lt; omega); refine qj T iZ <| yK 16 (yQ (qZ (lim := 2) ci p (by omega)) ?_); rintro cn ⟨co, ac⟩; have cp : Ch (srB sr rv) w cn := zt cj ac (fun _ _ h => .inr h); have cq := ck.ch ac hS.ne; have cr := cl.ch ac (fun (h : d = rv) => by have := f; have := hS.rd.lt; omega); have ct := cm.ch ac (fun (h : o = rv) => by have := C; have := hS.rd.lt; omega); refine q9 <| yd [17, 18] [] .z <| yK 20 (yT [iX g, iX n, .bool ((k : Int) == 1), .bool false, .bool false, .bool false, iX 0, iX 0] ct fun cu cv ad => ?_); have cw : Ch (srB sr rv) w cu := zt cp ad (fun i hi (h : i = o) => by have := C; omega)
  have cx := cq.ch ad (fun (h : sr = o) => by have := C; have := hS.blk.lt; omega); have cy := cr.ch ad (fun (h : d = o) => by have := a2.lt; omega); have cz := co.ch ad (fun (h : rv = o) => by have := C; have := hS.rd.lt; omega) (fun (h : D = o) => by have := C; have := hS.rd.dlt; omega); refine q9 <| yDe (fun a ha => a0 o _ ⟨cy, cv, cx, cz, cw, C, (fun (h : o = d) => by have := a2.lt; omega)⟩ a (ha.kp [0, 1, 6, 7]))
 generalize gs = m at aH ⊢; obtain ⟨cA, cB, aO, cC, cD, r, cE⟩ := aH; refine ysr <| yp 4 [] (.l (aO.c 0) .z) ?_; obtain ⟨b, U, dW, V⟩ : ∃ t ok s', qft u3 = (t, ok, s') := ⟨_, _, _, rfl⟩
 refine yo (yQ (qdR cC V) ?_); rintro cF ⟨cG, ae⟩; have aP : Ch (srB sr rv) w cF := zt cD ae (fun _ _ h => .inr h); have cH := aO.ch ae hS.ne; have aQ := cA.ch ae (fun (h : d = rv) => by have := f; have := hS.rd.lt; omega); have aR := cB.ch ae (fun (h : m = rv) => by have := r; have := hS.rd.lt; omega); refine yq 8 <| yo (yN [.bool false, .bool false, .bool false, iX 0, iX 0] 44 fun cI J cJ dX cK X => ?_); have cL : Ch (srB sr rv) w cI := zt aP X eZ; have af := zn cJ aP; have cM := cH.ch X id; have cN := aQ.ch X id; have cO := aR.ch X id; have cP := cG.ch X id id; refine yo (yT [.bool b.bold, .bool b.under, .bool b.turned, iX b.fore, iX b.back] cK fun cQ cR Y => ?_); have cS : Ch (srB sr rv) w cQ := zt cL Y (fun i hi (h : i = J) => by have := af; omega); have cT := cM.ch Y (fun (h : sr = J) => by have := af; have := hS.blk.lt; omega); have cU := cN.ch Y (fun (h : d = J) => by have := aQ.lt; omega); have cV := cO.ch Y (fun (h : m = J) => by have := aR.lt; omega); have cW := cP.ch Y (fun (h : rv = J) => by have := af; have := hS.rd.lt; omega) (fun (h : D = J) => by have := af; have := hS.rd.dlt; omega); refine yz 11 <| ysr <| yp 2 [] (.a (cR.cs 0 5) .z) <| yo (yT [iX g, iX n, .bool ((k : Int) == 1), .bool b.bold, .bool b.under, .bool b.turned, iX b.fore, iX b.back] cV fun cX K ag => ?_); have ah : Ch (srB sr rv) w cX := zt cS ag (fun i hi (h : i = m) => by have := r; omega); have Z := cT.ch ag (fun (h : sr = m) => by have := r; have := hS.blk.lt; omega); have ai := cU.ch ag (fun h => cE h.symm)
 have aj := cW.ch ag (fun (h : rv = m) => by have := r; have := hS.rd.lt; omega) (fun (h : D = m) => by have := r; have := hS.rd.dlt; omega); refine ye <| ysr <| yp 6 [] (.l (Z.c 1) .z) <| yw [44] (rY fine) (fun aw => ?_) fun aw => ?_
 ·have ax := aw; refine yq 9 <| yw [47] (rY U) (fun ay => ?_) fun ay => ?_
  ·have aS := ay; refine yp 13 [] (.l (K.c 2) .z) <| yw [51] (rN (rE k 1)) (fun az => ?_) fun az => ?_
   ·have cY := az; refine yq 22 <| yo (yT [pX rv, .bool true] Z fun cZ d0 ak => ?_); have d1 : Ch (srB sr rv) w cZ := zt ah ak (fun _ _ h => .inl h); have d2 := ai.ch ak (fun (h : d = sr) => by have := f; have := hS.blk.lt; omega); have d3 := aj.ch ak (fun h => hS.ne h.symm) (fun h => hS.nd h.symm); have d4 := K.ch ak (fun (h : m = sr) => by have := r; have := hS.blk.lt; omega); refine ye <| ysr <| yp 1 [] (.a (d4.cs 0 8) .z) <| yo (yT [iX g, iX n, .bool ((k : Int) == 1), .bool b.bold, .bool b.under, .bool b.turned, iX b.fore, iX b.back] d2 fun d5 d6 aA => ?_); have d7 : Ch (srB sr rv) w d5 := zt d1 aA (fun i hi (h : i = d) => by have := f; omega); have d8 := d3.ch aA (fun (h : rv = d) => by have := f; have := hS.rd.lt; omega) (fun (h : D = d) => by have := f; have := hS.rd.dlt; omega); have d9 := d0.ch aA (fun (h : sr = d) => by have := f; have := hS.blk.lt; omega); refine ye <| qe (qds (.agg #[iX g, iX n, .bool ((k : Int) == 1), .bool b.bold, .bool b.under, .bool b.turned, iX b.fore, iX b.back]) (.a (d6.cs 0 8) .z) ?_); rw [qfc E v p V] at hC; simp only [Prod.mk.injEq] at hC; obtain ⟨rfl, rfl, rfl⟩ := hC; have da : true = (fine && (U && (!(k == 1) || g == W - 1))) := by simp [ax, aS, cY]
    exact ⟨rfl, ⟨by rw [← da]; exact d9, d8, hS.ne, hS.nd⟩, d7⟩
   have db := az; refine yp 22 [] (.l (K.c 0) (.q6 (W - 1) .z)) <| yo (yT [pX rv, .bool ((g : Int) == (W - 1))] Z fun dc dd al => ?_); have de : Ch (srB sr rv) w dc := zt ah al (fun _ _ h => .inl h); have df := ai.ch al (fun (h : d = sr) => by have := f; have := hS.blk.lt; omega); have dg := aj.ch al (fun h => hS.ne h.symm) (fun h => hS.nd h.symm); have dh := K.ch al (fun (h : m = sr) => by have := r; have := hS.blk.lt; omega); refine ye <| ysr <| yp 1 [] (.a (dh.cs 0 8) .z) <| yo (yT [iX g, iX n, .bool ((k : Int) == 1), .bool b.bold, .bool b.under, .bool b.turned, iX b.fore, iX b.back] df fun di dj aB => ?_); have dk : Ch (srB sr rv) w di := zt de aB (fun i hi (h : i = d) => by have := f; omega); have dl := dg.ch aB (fun (h : rv = d) => by have := f; have := hS.rd.lt; omega) (fun (h : D = d) => by have := f; have := hS.rd.dlt; omega); have dm := dd.ch aB (fun (h : sr = d) => by have := f; have := hS.blk.lt; omega); refine ye <| qe (qds (.agg #[iX g, iX n, .bool ((k : Int) == 1), .bool b.bold, .bool b.under, .bool b.turned, iX b.fore, iX b.back]) (.a (dj.cs 0 8) .z) ?_); rw [qfc E v p V] at hC; simp only [Prod.mk.injEq] at hC; obtain ⟨rfl, rfl, rfl⟩ := hC; have dn : ((g : Int) == (W - 1)) = (fine && (U && (!(k == 1) || g == W - 1))) := by simp [ax, aS, db]
   exact ⟨rfl, ⟨by rw [← dn]; exact dm, dl, hS.ne, hS.nd⟩, dk⟩
  have dp := ay; refine yq 22 <| yo (yT [pX rv, .bool false] Z fun dq dr am => ?_); have ds : Ch (srB sr rv) w dq := zt ah am (fun _ _ h => .inl h); have dt := ai.ch am (fun (h : d = sr) => by have := f; have := hS.blk.lt; omega); have du := aj.ch am (fun h => hS.ne h.symm) (fun h => hS.nd h.symm); have dv := K.ch am (fun (h : m = sr) => by have := r; have := hS.blk.lt; omega); refine ye <| ysr <| yp 1 [] (.a (dv.cs 0 8) .z) <| yo (yT [iX g, iX n, .bool ((k : Int) == 1), .bool b.bold, .bool b.under, .bool b.turned, iX b.fore, iX b.back] dt fun dw dx aC => ?_); have dy : Ch (srB sr rv) w dw := zt ds aC (fun i hi (h : i = d) => by have := f; omega); have dz := du.ch aC (fun (h : rv = d) => by have := f; have := hS.rd.lt; omega) (fun (h : D = d) => by have := f; have := hS.rd.dlt; omega); have dA := dr.ch aC (fun (h : sr = d) => by have := f; have := hS.blk.lt; omega); refine ye <| qe (qds (.agg #[iX g, iX n, .bool ((k : Int) == 1), .bool b.bold, .bool b.under, .bool b.turned, iX b.fore, iX b.back]) (.a (dx.cs 0 8) .z) ?_); rw [qfc E v p V] at hC; simp only [Prod.mk.injEq] at hC; obtain ⟨rfl, rfl, rfl⟩ := hC; have dB : false = (fine && (U && (!(k == 1) || g == W - 1))) := by simp [ax, dp]
  exact ⟨rfl, ⟨by rw [← dB]; exact dA, dz, hS.ne, hS.nd⟩, dy⟩
 have dC := aw; refine yq 22 <| yo (yT [pX rv, .bool false] Z fun dD dE an => ?_); have dF : Ch (srB sr rv) w dD := zt ah an (fun _ _ h => .inl h); have dG := ai.ch an (fun (h : d = sr) => by have := f; have := hS.blk.lt; omega); have dH := aj.ch an (fun h => hS.ne h.symm) (fun h => hS.nd h.symm); have dI := K.ch an (fun (h : m = sr) => by have := r; have := hS.blk.lt; omega); refine ye <| ysr <| yp 1 [] (.a (dI.cs 0 8) .z) <| yo (yT [iX g, iX n, .bool ((k : Int) == 1), .bool b.bold, .bool b.under, .bool b.turned, iX b.fore, iX b.back] dG fun dJ dK aD => ?_); have dL : Ch (srB sr rv) w dJ := zt dF aD (fun i hi (h : i = d) => by have := f; omega); have dM := dH.ch aD (fun (h : rv = d) => by have := f; have := hS.rd.lt; omega) (fun (h : D = d) => by have := f; have := hS.rd.dlt; omega); have dN := dE.ch aD (fun (h : sr = d) => by have := f; have := hS.blk.lt; omega); refine ye <| qe (qds (.agg #[iX g, iX n, .bool ((k : Int) == 1), .bool b.bold, .bool b.under, .bool b.turned, iX b.fore, iX b.back]) (.a (dK.cs 0 8) .z) ?_); rw [qfc E v p V] at hC; simp only [Prod.mk.injEq] at hC; obtain ⟨rfl, rfl, rfl⟩ := hC; have dO : false = (fine && (U && (!(k == 1) || g == W - 1))) := by simp [dC]
 exact ⟨rfl, ⟨by rw [← dO]; exact dN, dM, hS.ne, hS.nd⟩, dL⟩
set_option maxHeartbeats 4000000 in
theorem qei {sr rv D : Nat} {s0 s1 : RS} {fine f1 : Bool} {w : World} (hS : SrIn w sr rv D fine s0) {W H : Int} {LL : List (List Cel)} (hT : qa8 w) (hr7 : gTop ≤ rv) (hs7 : gTop ≤ sr) (hW : 0 ≤ W ∧ W ≤ 60) (hH : 0 ≤ H ∧ H ≤ 1000) (hL : qag W H.toNat [] s0 fine = (LL, s1, f1)) : Calls Tryz.prog 34 [pX sr, iX W, iX H].toArray w fun e w' =>
 ∃ o n cap rows, e = .returned (.slice (o.map at0) n cap) ∧ OutO w' w.heap.size o n cap rows ∧ rows.map RowO.l = LL ∧ SrIn w' sr rv D f1 s1 ∧ Ch (srB sr rv) w w' := by
 refine yA Tryz.func34 rfl <| yx 1 <| yx 1 <| ys <| yx 2 <| q8 <| qT [0, 1, 7, 10, 11] (f' := [(0, pX sr), (1, iX W), (7, nX), (10, iX H), (11, iX 0)]) <| qz (σ := Nat × List RowO × Option Nat × Nat × Nat × RS × Bool) (fun ⟨k, rows, o, n, cap, s, f⟩ => [(0, pX sr), (1, iX W), (7, .slice (o.map at0) n cap), (10, iX H), (11, iX ((k : Nat) : Int))]) (fun ⟨k, rows, o, n, cap, s, f⟩ u => k ≤ H.toNat ∧ qag W (H.toNat - k) (rows.map RowO.l) s f = qag W H.toNat [] s0 fine ∧ OutO u w.heap.size o n cap rows ∧ rows.length = k ∧ Blk u sr [pX rv, .bool f] tSr ∧ RdrAt u rv D s ∧ Ch (srB sr rv) w u) (fun ⟨k, rows, o, n, cap, s, f⟩ => H.toNat - k) (0, [], none, 0, 0, s0, fine) rfl ?_ ?_
 ·exact ⟨Nat.zero_le _, rfl, OutO.nil _ _, rfl, hS.blk, hS.rd, Ch.refl _ _⟩
 intro p av U aw V; obtain ⟨k, rows, o, n, cap, s, f⟩ := p; obtain ⟨hk, hG, hO, X, hB, hR, v⟩ := U; have ax := hO.len; have ay : n ≤ cap := hO.own.2.1; refine yx 1 <| ys <| yc (rL ((k : Nat) : Int) H) (fun Y => ?_) fun Y => ?_
 ·have E : H.toNat - k = (H.toNat - (k + 1)) + 1 := by omega
  rw [E, qag] at hG; refine yk <| ys <| q8 <| ysr <| yp 5 [] (.l (hB.c 0) .z) ?_; obtain ⟨j, L, Z, A⟩ : ∃ l ok s', qdm W s = (l, ok, s') := ⟨_, _, _, rfl⟩
  refine yo (yC (qia hR (qh v hT (fun h => h.elim (fun (h : qcs = sr) => by have := g_lt; omega) (fun (h : qcs = rv) => by have := g_lt; omega)) (fun h => h.elim (fun (h : qb8 = sr) => by have := g_lt; omega) (fun (h : qb8 = rv) => by have := g_lt; omega))) hr7 ⟨by omega, by omega⟩ A) ?_); rintro _ a0 ⟨d, m, q, rfl, a1, a2, M, N, F⟩; refine ⟨_, rfl, ?_⟩; have O : ∀ b, d = some b → w.heap.size ≤ b := fun b e => Nat.le_trans (zs v) (M b e); have a3 : ∀ z ∈ rows, ∀ b, z.b = some b → d ≠ some b := fun z hz b hb e => by have := hO.rs.lt z hz b hb; have := M b e; omega
  have P : Ch (srB sr rv) w a0 := zt v F (fun _ _ h => .inr h); have G := hB.ch F hS.ne; have a4 := hO.ch F (fun b hb hl (h : b = rv) => by have := hS.rd.lt; omega); refine yz 11 <| ysr <| yp 6 [] (.l (G.c 1) .z) <| yw [27] (rY f) (fun I => ?_) fun I => ?_
  ·refine yq 10 <| yo (yT [pX rv, .bool L] G fun a5 J B => ?_); have K : Ch (srB sr rv) w a5 := zt P B (fun _ _ h => .inl h); have a6 := a4.ch B (fun b hb hl (h : b = sr) => by have := hS.blk.lt; omega); have Q := N.ch B (fun h => hS.ne h.symm) (fun h => hS.nd h.symm); have a7 := a2.ch B (fun b e (h : b = sr) => by have := O b e; have := hS.blk.lt; omega); refine ye <| ys <| ysr <| yp 5 [] (.l (J.c 1) .z) <| ye <| yc (rN (rY L)) (fun r => ?_) fun r => ?_
   ·refine yx 1 <| qe (rS (rB (rS (qE (rB (rS (yR1 (nX) ?_))))))); rw [A] at hG; rw [if_neg (by rw [r]; simp)] at hG; rw [hL] at hG; simp only [Prod.mk.injEq] at hG; obtain ⟨rfl, rfl, rfl⟩ := hG; exact ⟨none, 0, 0, [], rfl, OutO.nil _ _, rfl, ⟨(by rw [← r]; exact J), Q, hS.ne, hS.nd⟩, K⟩
   refine yk <| q7 <| yq 2 <| yo (yB [.slice (d.map at0) m q] 67 1 fun a8 a9 aa az ab t => ?_); have R : Ch (srB sr rv) w a8 := zt K t eZ; have aA := zn aa K; have g := a6.ch t (fun _ _ _ h => h); have ac := Q.ch t id id; have ad := a7.ch t iZ; have ae := J.ch t id; refine yo (qai 67 1 24 o n cap (rows.map RowO.val) (some ⟨a9, 0, none⟩) 1 1 [RowO.val (RowO.mk d m q j)] (some 40) (n + 1) rfl ((rows ++ [(RowO.mk d m q j)]).map RowO.val) (by rw [List.map_append]; rfl) (by kernel_rfl) g.own (Rd.all ab) rfl rfl (fun h => by cases h) (by constructor <;> first | omega | (simp only [maxLen]; omega)) ?_); intro af ag ah ai aj aB C; have ak := App.of aj C; have al := g.app (RowsO.one ad a1 O) (zs R) (fun x hx y hy b e => by rw [List.mem_singleton.1 hy]; exact a3 x hx b e) ai ak; have am : Ch (srB sr rv) w af := zt R C (fun i hi h => by have := g.lo _ h; omega); have an := ac.ch C (fun h => by have := g.lo _ h; have := hS.rd.lt; omega) (fun h => by have := g.lo _ h; have := hS.rd.dlt; omega); have ao := ae.ch C (fun h => by have := g.lo _ h; have := hS.blk.lt; omega); refine yq 5 <| yE (nB (nS ?_)); refine q7 <| yp 2 [] (.q6 (((k : Nat) : Int) + 1) .z) ?_; rw [A] at hG; rw [if_pos (by rw [I, r]; rfl)] at hG; have ap : ((rows ++ [(RowO.mk d m q j)])).map RowO.l = rows.map RowO.l ++ [j] := by rw [List.map_append]; rfl
   refine yE (fun a ha => V (k + 1, (rows ++ [(RowO.mk d m q j)]), ag, (n + 1), ah, Z, true) _ ⟨by omega, by rw [ap]; exact hG, al, by rw [List.length_append, X]; rfl, by rw [← r]; exact ao, an, am⟩ (by show H.toNat - (k + 1) < H.toNat - k; omega) a (ha.kp [0, 1, 7, 10, 11]))
  refine yq 10 <| yo (yT [pX rv, .bool false] G fun aq S T => ?_); have ar : Ch (srB sr rv) w aq := zt P T (fun _ _ h => .inl h); have au := N.ch T (fun h => hS.ne h.symm) (fun h => hS.nd h.symm); refine ye <| ys <| ysr <| yp 5 [] (.l (S.c 1) .z) <| ye <| yct <| yx 1 <| qe (rS (rB (rS (qE (rB (rS (yR1 (nX) ?_))))))); rw [A] at hG; rw [if_neg (by rw [I]; simp)] at hG; rw [hL] at hG; simp only [Prod.mk.injEq] at hG; obtain ⟨rfl, rfl, rfl⟩ := hG; exact ⟨none, 0, 0, [], rfl, OutO.nil _ _, rfl, ⟨S, au, hS.ne, hS.nd⟩, ar⟩
 have E : H.toNat - k = 0 := by omega
 rw [E, qag] at hG; refine qo (eS (qg (qd (nS ?_)))); refine yx 2 <| qe (yR1 (.slice (o.map at0) n cap) ?_); rw [hL] at hG; simp only [Prod.mk.injEq] at hG; obtain ⟨rfl, rfl, rfl⟩ := hG; exact ⟨o, n, cap, rows, rfl, hO, rfl, ⟨hB, hR, hS.ne, hS.nd⟩, v⟩
theorem qie {W : Int} : ∀ {k : Nat} {out L : List (List Cel)} {s s' : RS} {f f' : Bool}, qag W k out s f = (L, s', f') → L.length ≤ out.length + k
  | 0, out, L, s, s', f, f', h => by simp only [qag, Prod.mk.injEq] at h; rw [h.1]; exact Nat.le_refl _
  | k + 1, out, L, s, s', f, f', h => by
    rw [qag] at h
    split at h
    · have := qie h
      rw [List.length_append] at this
      simp only [List.length_cons, List.length_nil] at this
      omega
    · simp only [Prod.mk.injEq] at h
      rw [← h.1]; simp
set_option maxHeartbeats 4000000 in
theorem qmn {sr rv D : Nat} {s0 s1 : RS} {fine f1 : Bool} {w : World} (hS : SrIn w sr rv D fine s0) {LL : List (List Cel)} (hT : qa8 w) (hr7 : gTop ≤ rv) (hs7 : gTop ≤ sr) (hBk : qfv s0 fine = (LL, s1, f1)) : Calls Tryz.prog 35 [pX sr].toArray w fun e w' =>
 ∃ o n cap rows, e = .returned (.slice (o.map at0) n cap) ∧ OutO w' w.heap.size o n cap rows ∧ rows.map RowO.l = LL ∧ SrIn w' sr rv D f1 s1 ∧ Ch (srB sr rv) w w' := by
 refine yA Tryz.func35 rfl <| yx 1 <| yx 1 <| ys <| ysr <| yp 4 [] (.l (hS.blk.c 0) .z) ?_; obtain ⟨g, N, q⟩ : ∃ x s', qP (21) s0 = (x, s') := ⟨_, _, rfl⟩
 have O := qa7 (lim := 21) (s := s0); rw [q] at O; dsimp only at O; refine yo (yQ (qZ (lim := 21) hS.rd q (by omega)) ?_); rintro a8 ⟨a9, P⟩; have aa : Ch (srB sr rv) w a8 := zt (Ch.refl (srB sr rv) w) P (fun _ _ h => .inr h); have ab := hS.blk.ch P hS.ne; refine yz 6 <| q8 <| qT [0, 3, 9, 10] (f' := [(0, pX sr), (3, nX), (9, iX g), (10, iX 0)]) <| qz (σ := Nat × List RowO × Option Nat × Nat × Nat × RS × Bool) (fun ⟨k, rows, o, n, cap, s, f⟩ => [(0, pX sr), (3, .slice (o.map at0) n cap), (9, iX g), (10, iX ((k : Nat) : Int))]) (fun ⟨k, rows, o, n, cap, s, f⟩ u => k ≤ (g : Int).toNat ∧ qee ((g : Int).toNat - k) (rows.map RowO.l) s f = qee (g : Int).toNat [] N fine ∧ OutO u w.heap.size o n cap rows ∧ n ≤ k ∧ Blk u sr [pX rv, .bool f] tSr ∧ RdrAt u rv D s ∧ Ch (srB sr rv) w u) (fun ⟨k, rows, o, n, cap, s, f⟩ => (g : Int).toNat - k) (0, [], none, 0, 0, N, fine) rfl ?_ ?_
 ·exact ⟨Nat.zero_le _, rfl, OutO.nil _ _, Nat.le_refl _, ab, a9, aa⟩
 intro p aB ac aC ad; obtain ⟨k, rows, o, n, cap, s, f⟩ := p; obtain ⟨hk, hG, hO, aD, hB, hR, Q⟩ := ac; have aE : n ≤ cap := hO.own.2.1; refine yx 1 <| ys <| yc (rL ((k : Nat) : Int) g) (fun ae => ?_) fun ae => ?_
 ·have E : (g : Int).toNat - k = ((g : Int).toNat - (k + 1)) + 1 := by omega
  rw [E, qee] at hG; refine yk <| ys <| q8 <| ysr <| yp 4 [] (.l (hB.c 0) .z) ?_; obtain ⟨j, af, r⟩ : ∃ x s', qP (61) s = (x, s') := ⟨_, _, rfl⟩
  have R := qa7 (lim := 61) (s := s); rw [r] at R; dsimp only at R; refine yo (yQ (qZ (lim := 61) hR r (by omega)) ?_); rintro S ⟨ag, F⟩; have G : Ch (srB sr rv) w S := zt Q F (fun _ _ h => .inr h); have ah := hB.ch F hS.ne; have T := hO.ch F (fun b hb hl (h : b = rv) => by have := hS.rd.lt; omega); refine yz 6 <| ysr <| yq 3 ?_; obtain ⟨U, ai, f36, t⟩ : ∃ l s' f', qag j (1 : Int).toNat [] af f = (l, s', f') := ⟨_, _, _, rfl⟩
  refine yo (yC (qei ⟨ah, ag, hS.ne, hS.nd⟩ (qh G hT (fun h => h.elim (fun (h : qcs = sr) => by have := g_lt; omega) (fun (h : qcs = rv) => by have := g_lt; omega)) (fun h => h.elim (fun (h : qb8 = sr) => by have := g_lt; omega) (fun (h : qb8 = rv) => by have := g_lt; omega))) hr7 hs7 (by omega) (by omega) t) ?_); rintro _ V ⟨W, H, aj, v, rfl, X, Y, Z, I⟩; refine ⟨_, rfl, ?_⟩; have aF : S.heap.size ≤ V.heap.size := zs I; have ak : ∀ x ∈ rows, ∀ y ∈ v, ∀ b, x.b = some b → y.b ≠ some b := fun x hx y hy b e e' => by have := T.rs.lt x hx b e; have := X.rs.lo y hy b e'; omega
  have B := X.low (zs G); have a0 : Ch (srB sr rv) w V := zt G I iZ; have m := T.ch I (fun b hb hl h => h.elim (fun (h : b = sr) => by have := hS.blk.lt; omega) (fun (h : b = rv) => by have := hS.rd.lt; omega)); have a1 := B.len; have al := congrArg List.length Y; rw [List.length_map, a1] at al; have aG : U.length ≤ 1 := by have h := qie t; simpa using h
  refine yo (qai 67 1 24 o n cap (rows.map RowO.val) (W.map at0) H aj (v.map RowO.val) (some 21) (n + H) rfl ((rows ++ v).map RowO.val) (by rw [List.map_append]) (by kernel_rfl) m.own B.own.rd (by rw [List.length_map, a1, Nat.mul_one]) (rowO_one _) (fun h => by cases W with | none => exact (B.own.2.2.2.1 rfl).2 | some b => cases h) (by constructor <;> first | omega | (simp only [maxLen]; omega)) ?_); intro am an ao ap aq aH C; have ar := App.of aq C; have au := m.app B.rs (zs a0) ak ap ar; have a2 : Ch (srB sr rv) w am := zt a0 C (fun i hi h => by have := m.lo _ h; omega); have a3 := Z.rd.ch C (fun h => by have := m.lo _ h; have := hS.rd.lt; omega) (fun h => by have := m.lo _ h; have := hS.rd.dlt; omega); have J := Z.blk.ch C (fun h => by have := m.lo _ h; have := hS.blk.lt; omega); refine yz 6 <| ysr <| yp 6 [] (.l (J.c 1) .z) <| yw [27] (rY f36) (fun K => ?_) fun K => ?_
  ·refine yq 11 <| yo (yT [pX rv, .bool (decide (0 < j))] J fun av L M => ?_); have a4 : Ch (srB sr rv) w av := zt a2 M (fun _ _ h => .inl h); have a5 := a3.ch M (fun h => hS.ne h.symm) (fun h => hS.nd h.symm); have aw := au.ch M (fun b hb hl (h : b = sr) => by have := hS.blk.lt; omega); refine ye <| ysr <| yp 5 [] (.l (L.c 1) .z) <| ye <| yc (rN (rL 0 j)) (fun A => ?_) fun A => ?_
   ·refine yx 1 <| qe (rB (rS (qE (rB (rS (yR1 (nX) ?_)))))); have d := hBk; unfold qfv at d; rw [q] at d; dsimp only at d; rw [r] at hG; dsimp only at hG; rw [show qag j 1 [] _ _ = _ from t] at hG; dsimp only at hG; rw [if_neg (by rw [decide_eq_false A]; simp)] at hG; rw [d] at hG; simp only [Prod.mk.injEq] at hG; obtain ⟨rfl, rfl, rfl⟩ := hG; exact ⟨none, 0, 0, [], rfl, OutO.nil _ _, rfl, ⟨(by rw [← decide_eq_false A]; exact L), a5, hS.ne, hS.nd⟩, a4⟩
   refine qr (nB (nS ?_)); refine q7 <| yp 2 [] (.q6 (((k : Nat) : Int) + 1) .z) ?_; rw [r] at hG; dsimp only at hG; rw [show qag j 1 [] _ _ = _ from t] at hG; dsimp only at hG; rw [if_pos (by rw [K, decide_eq_true A]; rfl)] at hG; have ax : ((rows ++ v)).map RowO.l = rows.map RowO.l ++ U := by rw [List.map_append, Y]
   refine yE (fun a ha => ad (k + 1, (rows ++ v), an, (n + H), ao, ai, true) _ ⟨by omega, by rw [ax]; exact hG, aw, by omega, by rw [← decide_eq_true A]; exact L, a5, a4⟩ (by show (g : Int).toNat - (k + 1) < (g : Int).toNat - k; omega) a (ha.kp [0, 3, 9, 10]))
  refine yq 11 <| yo (yT [pX rv, .bool false] J fun ay a6 a7 => ?_); have az : Ch (srB sr rv) w ay := zt a2 a7 (fun _ _ h => .inl h); have aA := a3.ch a7 (fun h => hS.ne h.symm) (fun h => hS.nd h.symm); refine ye <| ysr <| yp 5 [] (.l (a6.c 1) .z) <| ye <| yct <| yx 1 <| qe (rB (rS (qE (rB (rS (yR1 (nX) ?_)))))); have d := hBk; unfold qfv at d; rw [q] at d; dsimp only at d; rw [r] at hG; dsimp only at hG; rw [show qag j 1 [] _ _ = _ from t] at hG; dsimp only at hG; rw [if_neg (by rw [K]; simp)] at hG; rw [d] at hG; simp only [Prod.mk.injEq] at hG; obtain ⟨rfl, rfl, rfl⟩ := hG; exact ⟨none, 0, 0, [], rfl, OutO.nil _ _, rfl, ⟨a6, aA, hS.ne, hS.nd⟩, az⟩
 have E : (g : Int).toNat - k = 0 := by omega
 rw [E, qee] at hG; refine qo (eS (qg (qd (nS ?_)))); refine yx 2 <| qe (yR1 (.slice (o.map at0) n cap) ?_); have d := hBk; unfold qfv at d; rw [q] at d; dsimp only at d; rw [d] at hG; simp only [Prod.mk.injEq] at hG; obtain ⟨rfl, rfl, rfl⟩ := hG; exact ⟨o, n, cap, rows, rfl, hO, rfl, ⟨hB, hR, hS.ne, hS.nd⟩, Q⟩
abbrev tI : TypeId := 3
theorem put_mkU {l : List Int} (h : l.length ≤ 3) (c : Value) (r : List Value) : put (c :: uX 0 :: uX 0 :: uX 0 :: r) 1 (l.map (Value.int .u8)) = c :: uX (mkU l).b0 :: uX (mkU l).b1 :: uX (mkU l).b2 :: r := by
 match l, h with
 | [], _ => rfl
 | [a], _ => rfl
 | [a, b], _ => rfl
 | [a, b, c], _ => rfl
theorem qmo (x : ByteArray) : qeu x = (qaC x).map (Value.int .u8) := by
 unfold qeu qaC; rw [List.map_map]; rfl
theorem mkU_n (x : ByteArray) : ((x.size : Nat) : Int) = (mkU (qaC x)).n := by
 show _ = (((qaC x).length : Nat) : Int)
 rw [qbX]
theorem qh3 {most : Int} {s s' : RS} {x : ByteArray} (h : qb6 most s = (x, s')) (h0 : 0 < most) : (x.size : Int) ≤ most := by
 have hb := qa7 (lim := most + 1) (s := s); unfold qb6 at h; rw [if_pos h0] at h; split at h
 ·simp only [Prod.mk.injEq] at h; rw [← h.1]; show (0 : Int) ≤ most; omega
 rename_i n ys e; rw [e] at hb; have a : n < most + 1 := hb.2.2 (by omega); have b : 0 ≤ n := hb.1; split at h
 ·simp only [Prod.mk.injEq] at h; rw [← h.1]; show (0 : Int) ≤ most; omega
 simp only [Prod.mk.injEq] at h; rw [← h.1, qbx, List.length_take]; omega
set_option maxHeartbeats 4000000 in
theorem qiN {sr rv D : Nat} {s0 s1 : RS} {fine f1 : Bool} {w : World} (hS : SrIn w sr rv D fine s0) {p : PS} (hU : qc2 w) (hr7 : gTop ≤ rv) (hs7 : gTop ≤ sr) (hP : qi4 s0 fine = (p, s1, f1)) : Calls Tryz.prog 37 [pX sr].toArray w fun e w' =>
 ∃ o n cap, e = .returned (.agg (p.vals (.slice (o.map at0) n cap)).toArray) ∧ Own w' tI 1 o n cap (p.params.map (Value.int .i64)) ∧ (∀ b, o = some b → w.heap.size ≤ b) ∧ SrIn w' sr rv D f1 s1 ∧ Ch (srB sr rv) w w' := by
 obtain ⟨r, u1, P⟩ : ∃ x s', qP 8 s0 = (x, s') := ⟨_, _, rfl⟩
 obtain ⟨t, u2, J⟩ : ∃ x s', qP 8 u1 = (x, s') := ⟨_, _, rfl⟩
 have aH := qa7 (lim := 8) (s := s0); have aI := qa7 (lim := 8) (s := u1); rw [P] at aH; rw [J] at aI; dsimp only at aH aI; refine yA Tryz.func37 rfl <| ysr <| yo (yN [iX 0, uX 0, uX 0, uX 0, iX 0, oX, nX, oX, iX 0] 55 fun bj g bk eu bl aq => ?_); have bm : Ch (srB sr rv) w bj := zt (Ch.refl (srB sr rv) w) aq eZ; have q : w.heap.size ≤ g := by rw [bk]; exact zs (Ch.refl (srB sr rv) w)
 have bn := hS.blk.ch aq id; have bo := hS.rd.ch aq id id; refine ye <| qdc (σ := Nat) (fun f => [(0, pX sr), (2, pX g), (3, pX f)]) (fun f u => Blk u g [iX 0, uX 0, uX 0, uX 0, iX 0, oX, nX, oX, iX 0] 55 ∧ Blk u f [iX r, uX 0, uX 0, uX 0, iX 0, oX, nX, oX, iX t] 55 ∧ Blk u sr [pX rv, .bool fine] tSr ∧ RdrAt u rv D u2 ∧ Ch (srB sr rv) w u ∧ w.heap.size ≤ f ∧ ¬ f = g) (fun ev ar => ?_) (fun gs u22 aJ => ?_)
 ·refine qG (· = rv) [9, 12] (by kernel_rfl) (fun bp ew a2 => ?_); have au : Ch (srB sr rv) w bp := zt bm a2 eZ; have a3 := bn.ch a2 id; have aK := bo.ch a2 id id; have a4 := bl.ch a2 id; refine ydC [0, 1, 2, 3, 5, 6, 7, 8] [] (fun u hu => (.l (qf hu (a3.c 0) hS.ne) (.l (qf hu (a3.c 0) hS.ne) .z))) <| qba 4 11 (by kernel_rfl) (by decide) ?_ ?_
  ·refine qaG 4 _ (by kernel_rfl) rfl (yQ (qZ (lim := 8) aK P (by omega)) ?_); rintro bq ⟨aL, a5⟩; have av : Ch (srB sr rv) w bq := zt au a5 (fun _ _ h => .inr h); have aM := a3.ch a5 hS.ne; have a6 := a4.ch a5 (fun (h : g = rv) => by have := q; have := hS.rd.lt; omega); refine qj a5 iZ <| qba 9 11 (by kernel_rfl) (by decide) ?_ ?_
   ·refine qb1 9 _ (by kernel_rfl) rfl (yQ (qZ (lim := 8) aL J (by omega)) ?_); rintro br ⟨bs, aw⟩; have aN : Ch (srB sr rv) w br := zt av aw (fun _ _ h => .inr h); have bt := aM.ch aw hS.ne; have ax := a6.ch aw (fun (h : g = rv) => by have := q; have := hS.rd.lt; omega); refine qaH (B := fun j => j = rv) <| ydC [10] [] (fun u hu => .z) <| yH 11 (yN [iX 0, uX 0, uX 0, uX 0, iX 0, oX, nX, oX, iX 0] 55 fun bu G bv ex bw Q => ?_); have bx : Ch (srB sr rv) w bu := zt aN Q eZ; have R := zn bv aN; have bz := bt.ch Q id; have bA := ax.ch Q id; have bB := bs.ch Q id id; refine qj Q eZ <| yK 12 (yT [iX r, uX 0, uX 0, uX 0, iX 0, oX, nX, oX, iX t] bw fun bC bD a7 => ?_); have bE : Ch (srB sr rv) w bC := zt bx a7 (fun i hi (h : i = G) => by have := R; omega); have bF := bz.ch a7 (fun (h : sr = G) => by have := R; have := hS.blk.lt; omega); have bG := bA.ch a7 (fun (h : g = G) => by have := ax.lt; omega); have bH := bB.ch a7 (fun (h : rv = G) => by have := R; have := hS.rd.lt; omega) (fun (h : D = G) => by have := R; have := hS.rd.dlt; omega); refine q9 <| yDe (fun a ha => ar G _ ⟨bG, bD, bF, bH, bE, R, (fun (h : G = g) => by have := ax.lt; omega)⟩ a (ha.kp [0, 2, 3]))
   refine qaG 11 _ (by kernel_rfl) rfl (yN [iX 0, uX 0, uX 0, uX 0, iX 0, oX, nX, oX, iX 0] 55 fun bI F bJ ey bK S => ?_); have bL : Ch (srB sr rv) w bI := zt av S eZ; have K := zn bJ av; have bM := aM.ch S id; have bN := a6.ch S id; have bO := aL.ch S id id; refine qj S eZ <| yK 9 (yQ (qZ (lim := 8) bO J (by omega)) ?_); rintro bP ⟨bQ, a8⟩; have bR : Ch (srB sr rv) w bP := zt bL a8 (fun _ _ h => .inr h); have bS := bM.ch a8 hS.ne; have bT := bN.ch a8 (fun (h : g = rv) => by have := q; have := hS.rd.lt; omega); have bU := bK.ch a8 (fun (h : F = rv) => by have := K; have := hS.rd.lt; omega); refine q9 <| yd [10] [] .z <| yK 12 (yT [iX r, uX 0, uX 0, uX 0, iX 0, oX, nX, oX, iX t] bU fun bV bW a9 => ?_); have bX : Ch (srB sr rv) w bV := zt bR a9 (fun i hi (h : i = F) => by have := K; omega); have bY := bS.ch a9 (fun (h : sr = F) => by have := K; have := hS.blk.lt; omega); have bZ := bT.ch a9 (fun (h : g = F) => by have := a6.lt; omega); have c0 := bQ.ch a9 (fun (h : rv = F) => by have := K; have := hS.rd.lt; omega) (fun (h : D = F) => by have := K; have := hS.rd.dlt; omega); refine q9 <| yDe (fun a ha => ar F _ ⟨bZ, bW, bY, c0, bX, K, (fun (h : F = g) => by have := a6.lt; omega)⟩ a (ha.kp [0, 2, 3]))
  refine qaG 11 _ (by kernel_rfl) rfl (yN [iX 0, uX 0, uX 0, uX 0, iX 0, oX, nX, oX, iX 0] 55 fun c1 E c2 ez c3 T => ?_); have c4 : Ch (srB sr rv) w c1 := zt au T eZ; have H := zn c2 au; have c5 := a3.ch T id; have c6 := aK.ch T id id; have c7 := a4.ch T id; refine qj T eZ <| yH 4 (yQ (qZ (lim := 8) c6 P (by omega)) ?_); rintro c8 ⟨c9, U⟩; have ca : Ch (srB sr rv) w c8 := zt c4 U (fun _ _ h => .inr h); have cb := c5.ch U hS.ne; have cc := c7.ch U (fun (h : g = rv) => by have := q; have := hS.rd.lt; omega); have cd := c3.ch U (fun (h : E = rv) => by have := H; have := hS.rd.lt; omega); refine qj U iZ <| yK 9 (yQ (qZ (lim := 8) c9 J (by omega)) ?_); rintro ce ⟨cf, aa⟩; have cg : Ch (srB sr rv) w ce := zt ca aa (fun _ _ h => .inr h); have ci := cb.ch aa hS.ne; have cj := cc.ch aa (fun (h : g = rv) => by have := q; have := hS.rd.lt; omega); have ck := cd.ch aa (fun (h : E = rv) => by have := H; have := hS.rd.lt; omega); refine q9 <| yd [10] [] .z <| yK 12 (yT [iX r, uX 0, uX 0, uX 0, iX 0, oX, nX, oX, iX t] ck fun cl cm ab => ?_); have cn : Ch (srB sr rv) w cl := zt cg ab (fun i hi (h : i = E) => by have := H; omega); have co := ci.ch ab (fun (h : sr = E) => by have := H; have := hS.blk.lt; omega); have cp := cj.ch ab (fun (h : g = E) => by have := a4.lt; omega); have cq := cf.ch ab (fun (h : rv = E) => by have := H; have := hS.rd.lt; omega) (fun (h : D = E) => by have := H; have := hS.rd.dlt; omega); refine q9 <| yDe (fun a ha => ar E _ ⟨cp, cm, co, cq, cn, H, (fun (h : E = g) => by have := a4.lt; omega)⟩ a (ha.kp [0, 2, 3]))
 generalize gs = f at aJ ⊢; obtain ⟨cr, ct, cu, cv, cw, m, V⟩ := aJ; refine ys <| yD [7, 8, 11] fun cx eA W => ?_; have cy : Ch (srB sr rv) w cx := zt cw W eZ; have aO := cu.ch W id; have cz := cv.ch W id id; have cA := cr.ch W id; have cB := ct.ch W id; refine yd (uL 0 7) [] (.l (aO.c 0) .z) ?_; obtain ⟨d, cC, ac⟩ : ∃ x s', qb6 3 u2 = (x, s') := ⟨_, _, rfl⟩
 refine yK 7 (yQ (qcT (most := 3) cz ac (by decide)) ?_); rintro cD ⟨cE, ad⟩; have cF : Ch (srB sr rv) w cD := zt cy ad (fun _ _ h => .inr h); have cG := aO.ch ad hS.ne; have cH := cA.ch ad (fun (h : g = rv) => by have := q; have := hS.rd.lt; omega); have cI := cB.ch ad (fun (h : f = rv) => by have := m; have := hS.rd.lt; omega); have eB := qh3 ac (by decide); refine q9 ?_; have aP : (qaC d).length ≤ 3 := by rw [qbX]; omega
 refine yK 8 (e_copyS' f 1 3 3 d (some 23) (mkU (qaC d)).n (mkU_n d) (by kernel_rfl) cI (by omega) (by simp only [List.length_cons, List.length_nil]; omega) ?_); intro cJ aQ ae; rw [qmo, put_mkU aP] at aQ; have cK : Ch (srB sr rv) w cJ := zt cF ae (fun i hi (h : i = f) => by have := m; omega); have cL := cG.ch ae (fun (h : sr = f) => by have := m; have := hS.blk.lt; omega); have cM := cH.ch ae (fun h => V h.symm); have cN := cE.ch ae (fun (h : rv = f) => by have := m; have := hS.rd.lt; omega) (fun (h : D = f) => by have := m; have := hS.rd.dlt; omega); refine q9 <| yd [9, 10] [] .z <| yK 11 (yT [iX r, uX (mkU (qaC d)).b0, uX (mkU (qaC d)).b1, uX (mkU (qaC d)).b2, iX (mkU (qaC d)).n, oX, nX, oX, iX t] aQ fun cO cP af => ?_); have cQ : Ch (srB sr rv) w cO := zt cK af (fun i hi (h : i = f) => by have := m; omega); have aR := cL.ch af (fun (h : sr = f) => by have := m; have := hS.blk.lt; omega); have cR := cM.ch af (fun h => V h.symm); have cS := cN.ch af (fun (h : rv = f) => by have := m; have := hS.rd.lt; omega) (fun (h : D = f) => by have := m; have := hS.rd.dlt; omega); refine q9 <| yDe (nS ?_); refine ysr <| yp 4 [] (.l (aR.c 0) .z) ?_; obtain ⟨v, aS, ag⟩ : ∃ x s', qb6 2 cC = (x, s') := ⟨_, _, rfl⟩
 refine yo (yQ (qcT (most := 2) cS ag (by decide)) ?_); rintro cT ⟨cU, ah⟩; have cV : Ch (srB sr rv) w cT := zt cQ ah (fun _ _ h => .inr h); have cW := aR.ch ah hS.ne; have cX := cR.ch ah (fun (h : g = rv) => by have := q; have := hS.rd.lt; omega); have cY := cP.ch ah (fun (h : f = rv) => by have := m; have := hS.rd.lt; omega); have eC := qh3 ag (by decide); refine yq 6 <| yo (yT [iX r, uX (mkU (qaC d)).b0, uX (mkU (qaC d)).b1, uX (mkU (qaC d)).b2, iX (mkU (qaC d)).n, .string v, nX, oX, iX t] cY fun cZ d0 ai => ?_); have d1 : Ch (srB sr rv) w cZ := zt cV ai (fun i hi (h : i = f) => by have := m; omega); have aT := cW.ch ai (fun (h : sr = f) => by have := m; have := hS.blk.lt; omega); have d2 := cX.ch ai (fun h => V h.symm); have d3 := cU.ch ai (fun (h : rv = f) => by have := m; have := hS.rd.lt; omega) (fun (h : D = f) => by have := m; have := hS.rd.dlt; omega); refine ye <| ys <| ysr <| yp 4 [] (.l (aT.c 0) .z) ?_; obtain ⟨y, aU, aj⟩ : ∃ x s', qP (9) aS = (x, s') := ⟨_, _, rfl⟩
 have aV := qa7 (lim := 9) (s := aS); rw [aj] at aV; dsimp only at aV; refine yo (yQ (qZ (lim := 9) d3 aj (by omega)) ?_); rintro d4 ⟨d5, ak⟩; have d6 : Ch (srB sr rv) w d4 := zt d1 ak (fun _ _ h => .inr h); have d7 := aT.ch ak hS.ne; have d8 := d2.ch ak (fun (h : g = rv) => by have := q; have := hS.rd.lt; omega); have d9 := d0.ch ak (fun (h : f = rv) => by have := m; have := hS.rd.lt; omega); refine yz 6 <| q8 <| qT [0, 2, 3, 36, 37] (f' := [(0, pX sr), (2, pX g), (3, pX f), (36, iX y), (37, iX 0)]) <| qz (σ := Nat × List Int × Option Nat × Nat × Nat × RS) (fun ⟨k, l, o, n, cap, s⟩ => [(0, pX sr), (2, pX g), (3, pX f), (36, iX y), (37, iX ((k : Nat) : Int))]) (fun ⟨k, l, o, n, cap, s⟩ u => k ≤ (y : Int).toNat ∧ qey ((y : Int).toNat - k) l s = qey (y : Int).toNat [] aU ∧ Own u tI 1 o n cap (l.map (Value.int .i64)) ∧ (∀ b, o = some b → w.heap.size ≤ b) ∧ (∀ b, o = some b → ¬ b = f) ∧ (∀ b, o = some b → ¬ b = g) ∧ n ≤ k ∧ Blk u sr [pX rv, .bool fine] tSr ∧ Blk u f [iX r, uX (mkU (qaC d)).b0, uX (mkU (qaC d)).b1, uX (mkU (qaC d)).b2, iX (mkU (qaC d)).n, .string v, .slice (o.map at0) n cap, oX, iX t] 55 ∧ Blk u g [iX 0, uX 0, uX 0, uX 0, iX 0, oX, nX, oX, iX 0] 55 ∧ RdrAt u rv D s ∧ Ch (srB sr rv) w u) (fun ⟨k, l, o, n, cap, s⟩ => (y : Int).toNat - k) (0, [], none, 0, 0, aU) rfl ?_ ?_
 ·exact ⟨Nat.zero_le _, rfl, Own.nil _ _ _, (fun b e => by cases e), (fun b e => by cases e), (fun b e => by cases e), Nat.le_refl _, d7, d9, d8, d5, d6⟩
 intro p eD da eE db; obtain ⟨k, l, o, n, cap, s⟩ := p; obtain ⟨hk, hG, hO, A, ay, al, eF, hB, aW, aX, hR, aY⟩ := da; have eG : n ≤ cap := hO.2.1; have dc : l.length = n := by have h := hO.1; simpa using h
 refine yx 1 <| ys <| yc (rL ((k : Nat) : Int) y) (fun dd => ?_) fun dd => ?_
 ·have az : (y : Int).toNat - k = ((y : Int).toNat - (k + 1)) + 1 := by omega
  rw [az, qey] at hG; refine yk <| ys <| q8 <| qG (· = rv) [8, 10] (by kernel_rfl) (fun de eH L => ?_); have df : Ch (srB sr rv) w de := zt aY L eZ; have aZ := hB.ch L id; have dg := aX.ch L id; have b3 := aW.ch L id; have dh := hR.ch L id id; have di := hO.ch L iZ; refine ydC (uL 0 6) [] (fun u hu => (.l (qf hu (b3.c 6) (fun (h : f = rv) => by have := m; have := hS.rd.lt; omega)) (.l (qf hu (aZ.c 0) hS.ne) .z))) ?_; obtain ⟨am, dj, aA⟩ : ∃ x s', qP (10000) s = (x, s') := ⟨_, _, rfl⟩
  have b4 := qa7 (lim := 10000) (s := s); rw [aA] at b4; dsimp only at b4; refine yH 6 (yQ (qZ (lim := 10000) dh aA (by omega)) ?_); rintro dk ⟨dl, M⟩; have b5 : Ch (srB sr rv) w dk := zt df M (fun _ _ h => .inr h); have dm := aZ.ch M hS.ne; have dn := dg.ch M (fun (h : g = rv) => by have := q; have := hS.rd.lt; omega); have dp := b3.ch M (fun (h : f = rv) => by have := m; have := hS.rd.lt; omega); have b6 := di.ch M (fun b e (h : b = rv) => by have := A b e; have := hS.rd.lt; omega); refine qj M iZ <| yH 7 (yB [iX am] 3 1 fun dq b8 dr eI ds I => ?_); have eJ := zv (b := b8) b6; have b9 : Ch (srB sr rv) w dq := zt b5 I eZ; have eK := zn dr b5; have dt := dm.ch I id; have ba := dn.ch I id; have bb := dp.ch I id; have du := b6.ch I iZ; have dv := dl.ch I id id; refine qj I eZ ?_; refine yK 8 (qai 3 1 8 o n cap (l.map (Value.int .i64)) (some ⟨b8, 0, none⟩) 1 1 [iX am] (some 47) (n + 1) rfl ((l ++ [am]).map (Value.int .i64)) (by rw [List.map_append]; rfl) (by kernel_rfl) du (Rd.all ds) rfl rfl (fun h => by cases h) (by constructor <;> first | omega | (simp only [maxLen]; omega)) ?_); intro dw aB bc dx bd eL N; have bf := App.of bd N; have dy : ∀ b, aB = some b → w.heap.size ≤ b := fun b e => by
   rcases bd with h | ⟨g', h, h'⟩
   ·exact A b (h ▸ e)
   rw [h] at e; have := zi e; have := zs b9; omega
  have bg := bf.apart bb.lt ay; have dz := bf.apart ba.lt al; have dA : Ch (srB sr rv) w dw := zt b9 N (fun i hi h => by have := A _ h; omega); have dB := dt.ch N (fun h => by have := A _ h; have := hS.blk.lt; omega); have dC := ba.ch N (fun h => al _ h rfl); have dD := bb.ch N (fun h => ay _ h rfl); have dE := dv.ch N (fun h => by have := A _ h; have := hS.rd.lt; omega) (fun h => by have := A _ h; have := hS.rd.dlt; omega); refine q9 <| yd [9] [] .z <| yK 10 (yT [iX r, uX (mkU (qaC d)).b0, uX (mkU (qaC d)).b1, uX (mkU (qaC d)).b2, iX (mkU (qaC d)).n, .string v, .slice (aB.map at0) (n + 1) bc, oX, iX t] dD fun dF dG X => ?_); have dH : Ch (srB sr rv) w dF := zt dA X (fun i hi (h : i = f) => by have := m; omega); have dI := dB.ch X (fun (h : sr = f) => by have := m; have := hS.blk.lt; omega); have dJ := dC.ch X (fun h => V h.symm); have dK := dE.ch X (fun (h : rv = f) => by have := m; have := hS.rd.lt; omega) (fun (h : D = f) => by have := m; have := hS.rd.dlt; omega); have dL := dx.ch X (fun b e (h : b = f) => bg b e h); refine q9 <| yDe (nB (nS ?_)); refine q7 <| yp 2 [] (.q6 (((k : Nat) : Int) + 1) .z) ?_; rw [aA] at hG; refine yE (fun a ha => db (k + 1, (l ++ [am]), aB, (n + 1), bc, dj) _ ⟨by omega, hG, dL, dy, bg, dz, by omega, dI, dG, dJ, dK, dH⟩ (by show (y : Int).toNat - (k + 1) < (y : Int).toNat - k; omega) a (ha.kp [0, 2, 3, 36, 37]))
 have az : (y : Int).toNat - k = 0 := by omega
 rw [az, qey] at hG; refine qo (eS (qg (qd (nS ?_)))); refine ysr <| yp 4 [] (.l (hB.c 0) .z) ?_; obtain ⟨C, eM, an⟩ : ∃ x s', qb6 40 s = (x, s') := ⟨_, _, rfl⟩
 refine yo (yQ (qcT (most := 40) hR an (by decide)) ?_); rintro dM ⟨dN, Y⟩; have dO : Ch (srB sr rv) w dM := zt aY Y (fun _ _ h => .inr h); have dP := hB.ch Y hS.ne; have dQ := aX.ch Y (fun (h : g = rv) => by have := q; have := hS.rd.lt; omega); have dR := aW.ch Y (fun (h : f = rv) => by have := m; have := hS.rd.lt; omega); have dS := hO.ch Y (fun b e (h : b = rv) => by have := A b e; have := hS.rd.lt; omega); have eN := qh3 an (by decide); refine yq 6 <| yo (yT [iX r, uX (mkU (qaC d)).b0, uX (mkU (qaC d)).b1, uX (mkU (qaC d)).b2, iX (mkU (qaC d)).n, .string v, .slice (o.map at0) n cap, .string C, iX t] dR fun dT aC Z => ?_); have aD : Ch (srB sr rv) w dT := zt dO Z (fun i hi (h : i = f) => by have := m; omega); have aE := dP.ch Z (fun (h : sr = f) => by have := m; have := hS.blk.lt; omega); have bh := dQ.ch Z (fun h => V h.symm); have aF := dS.ch Z (fun b e (h : b = f) => ay b e h); have bi := dN.ch Z (fun (h : rv = f) => by have := m; have := hS.rd.lt; omega) (fun (h : D = f) => by have := m; have := hS.rd.dlt; omega); refine ye <| ysr <| yp 6 [] (.l (aE.c 1) .z) <| yw [61] (rY fine) (fun aG => ?_) fun aG => ?_
 ·refine yp 7 [] (.a (aC.cs 0 9) .z) <| yo (yQ (rightE (PS.mk r (mkU (qaC d)) v l C t) (o.map at0) n cap _ (qa0 aD hU (fun h => h.elim (fun (h : qeo = sr) => by have := u_lt; omega) (fun (h : qeo = rv) => by have := u_lt; omega)) (fun h => h.elim (fun (h : gAcc = sr) => by have := u_lt; omega) (fun (h : gAcc = rv) => by have := u_lt; omega))) (qlq (qf8 _) aP) aF.rd dc (by cases ho : o with | none => rw [ho] at hO; exact .inl (hO.2.2.2.1 rfl).1 | some b => exact .inr ⟨b, 0, rfl⟩) (by omega) (by dsimp only; omega)) fun dU O => ?_); have dV : Ch (srB sr rv) w dU := zt aD O eZ; have dW := aE.ch O id; have dX := bh.ch O id; have dY := aF.ch O iZ; have dZ := bi.ch O id id; have e0 := aC.ch O id; refine yq 11 <| yo (yT [pX rv, .bool (qt (PS.mk r (mkU (qaC d)) v l C t))] dW fun e1 e2 a0 => ?_); have e3 : Ch (srB sr rv) w e1 := zt dV a0 (fun _ _ h => .inl h); have e4 := dX.ch a0 (fun (h : g = sr) => by have := q; have := hS.blk.lt; omega); have e5 := dY.ch a0 (fun b e (h : b = sr) => by have := A b e; have := hS.blk.lt; omega); have e6 := dZ.ch a0 (fun h => hS.ne h.symm) (fun h => hS.nd h.symm); have e7 := e0.ch a0 (fun (h : f = sr) => by have := m; have := hS.blk.lt; omega); refine ye <| ysr <| yp 1 [] (.a (e7.cs 0 9) .z) <| yo (yT [iX r, uX (mkU (qaC d)).b0, uX (mkU (qaC d)).b1, uX (mkU (qaC d)).b2, iX (mkU (qaC d)).n, .string v, .slice (o.map at0) n cap, .string C, iX t] e4 fun e8 e9 ao => ?_); have ea : Ch (srB sr rv) w e8 := zt e3 ao (fun i hi (h : i = g) => by have := q; omega)
  have eb := e5.ch ao (fun b e (h : b = g) => al b e h); have ec := e6.ch ao (fun (h : rv = g) => by have := q; have := hS.rd.lt; omega) (fun (h : D = g) => by have := q; have := hS.rd.dlt; omega); have ed := e2.ch ao (fun (h : sr = g) => by have := q; have := hS.blk.lt; omega); refine ye <| qe (qds (.agg #[iX r, uX (mkU (qaC d)).b0, uX (mkU (qaC d)).b1, uX (mkU (qaC d)).b2, iX (mkU (qaC d)).n, .string v, .slice (o.map at0) n cap, .string C, iX t]) (.a (e9.cs 0 9) .z) ?_); rw [qgX P J ac ag aj hG.symm an] at hP; simp only [Prod.mk.injEq] at hP; obtain ⟨rfl, rfl, rfl⟩ := hP; have ee : (qt (PS.mk r (mkU (qaC d)) v l C t)) = (fine && qt (PS.mk r (mkU (qaC d)) v l C t)) := by rw [aG]; rfl
  exact ⟨o, n, cap, rfl, eb, A, ⟨by rw [← ee]; exact ed, ec, hS.ne, hS.nd⟩, ea⟩
 refine yq 11 <| yo (yT [pX rv, .bool false] aE fun ef eg a1 => ?_); have eh : Ch (srB sr rv) w ef := zt aD a1 (fun _ _ h => .inl h); have ei := bh.ch a1 (fun (h : g = sr) => by have := q; have := hS.blk.lt; omega); have ej := aF.ch a1 (fun b e (h : b = sr) => by have := A b e; have := hS.blk.lt; omega); have ek := bi.ch a1 (fun h => hS.ne h.symm) (fun h => hS.nd h.symm); have el := aC.ch a1 (fun (h : f = sr) => by have := m; have := hS.blk.lt; omega); refine ye <| ysr <| yp 1 [] (.a (el.cs 0 9) .z) <| yo (yT [iX r, uX (mkU (qaC d)).b0, uX (mkU (qaC d)).b1, uX (mkU (qaC d)).b2, iX (mkU (qaC d)).n, .string v, .slice (o.map at0) n cap, .string C, iX t] ei fun em en ap => ?_); have eo : Ch (srB sr rv) w em := zt eh ap (fun i hi (h : i = g) => by have := q; omega); have ep := ej.ch ap (fun b e (h : b = g) => al b e h); have er := ek.ch ap (fun (h : rv = g) => by have := q; have := hS.rd.lt; omega) (fun (h : D = g) => by have := q; have := hS.rd.dlt; omega); have es := eg.ch ap (fun (h : sr = g) => by have := q; have := hS.blk.lt; omega); refine ye <| qe (qds (.agg #[iX r, uX (mkU (qaC d)).b0, uX (mkU (qaC d)).b1, uX (mkU (qaC d)).b2, iX (mkU (qaC d)).n, .string v, .slice (o.map at0) n cap, .string C, iX t]) (.a (en.cs 0 9) .z) ?_); rw [qgX P J ac ag aj hG.symm an] at hP; simp only [Prod.mk.injEq] at hP; obtain ⟨rfl, rfl, rfl⟩ := hP; have et : false = (fine && qt (PS.mk r (mkU (qaC d)) v l C t)) := by rw [aG]; rfl
 exact ⟨o, n, cap, rfl, ep, A, ⟨by rw [← et]; exact es, er, hS.ne, hS.nd⟩, eo⟩
end Go.Proofs.YtclnfbmmaofpjaaGreatDoor.X
