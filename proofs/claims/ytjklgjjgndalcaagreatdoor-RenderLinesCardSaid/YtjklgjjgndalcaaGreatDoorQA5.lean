/- What the proof of RenderLines needs, part 5: the walks of the program's functions and the plain laws about them. -/
import Derived.Test.YtjklgjjgndalcaaGreatDoorQA4
set_option linter.unusedSimpArgs false
set_option linter.unusedVariables false
set_option maxHeartbeats 4000000
namespace Go.Proofs.YtjklgjjgndalcaaGreatDoor
open Go.ChangeShapes Go.WideShapes Go.ChangeAt Go.RowKit
section
variable {H : Type} {enc : TypeId × Value → H} {w : World} {base : Nat}
set_option maxRecDepth 100000 in
theorem qg8 {spare : Nat → Bool} {held : Bool} {n : Nat} {cs : List Value} {x : DataW H × List MemPlace} (h : DataW.trod enc Tryz.prog w base spare held n 33 cs = some x) (hl : cs.length = 5) : ∃ y : X.Sty, cs = y.vals := by
  obtain ⟨xs, m, _, _, _, l, hf⟩ := DataW.trod_struct Tryz.underlying33 h; have o : Tryz.prog.cellsOf 4 = 1 := by kernel_rfl
  have p : Tryz.prog.cellsOf 3 = 1 := by kernel_rfl
  have a : DataW.trod enc Tryz.prog w base spare held m 4 ((cs.drop 0).take (Tryz.prog.cellsOf 4)) = xs[0]? := hf 0 _ rfl; have b : DataW.trod enc Tryz.prog w base spare held m 4 ((cs.drop 1).take (Tryz.prog.cellsOf 4)) = xs[1]? := hf 1 _ rfl; have c : DataW.trod enc Tryz.prog w base spare held m 4 ((cs.drop 2).take (Tryz.prog.cellsOf 4)) = xs[2]? := hf 2 _ rfl; have d : DataW.trod enc Tryz.prog w base spare held m 3 ((cs.drop 3).take (Tryz.prog.cellsOf 3)) = xs[3]? := hf 3 _ rfl; have e : DataW.trod enc Tryz.prog w base spare held m 3 ((cs.drop 4).take (Tryz.prog.cellsOf 3)) = xs[4]? := hf 4 _ rfl; rw [o] at a b c; rw [p] at d e; have D : xs.length = 5 := l; rw [List.getElem?_eq_getElem (by omega)] at a b c d e; obtain ⟨q, r, _⟩ := DataW.trod_bool Tryz.underlying4 a; obtain ⟨s, t, _⟩ := DataW.trod_bool Tryz.underlying4 b; obtain ⟨u, v, _⟩ := DataW.trod_bool Tryz.underlying4 c; obtain ⟨z, A, _⟩ := DataW.trod_int Tryz.underlying3 d; obtain ⟨B, C, _⟩ := DataW.trod_int Tryz.underlying3 e; have f := qa0 r; have g := qa0 t; have i := qa0 v; have j := qa0 A; have k := qa0 C; refine ⟨⟨q, s, u, z, B⟩, ?_⟩
  match cs, hl with
  | [u0, u1, u2, u3, u4], _ =>
    simp only [List.getElem?_cons_zero, List.getElem?_cons_succ, Option.some.injEq] at f g i j k; rw [f, g, i, j, k]; rfl
set_option maxRecDepth 100000 in
theorem qhA {spare : Nat → Bool} {held : Bool} {n : Nat} {cs : List Value} {x : DataW H × List MemPlace} (h : DataW.trod enc Tryz.prog w base spare held n 66 cs = some x) (hl : cs.length = 6) : ∃ y : X.Cel, cs = y.vals := by
  obtain ⟨xs, m, _, _, _, d, hf⟩ := DataW.trod_struct Tryz.underlying66 h; have e : Tryz.prog.cellsOf 21 = 1 := by kernel_rfl
  have f : Tryz.prog.cellsOf 33 = 5 := by kernel_rfl
  have a : DataW.trod enc Tryz.prog w base spare held m 21 ((cs.drop 0).take (Tryz.prog.cellsOf 21)) = xs[0]? := hf 0 _ rfl; have b : DataW.trod enc Tryz.prog w base spare held m 33 ((cs.drop 1).take (Tryz.prog.cellsOf 33)) = xs[1]? := hf 1 _ rfl; rw [e] at a; rw [f] at b; have j : xs.length = 2 := d; rw [List.getElem?_eq_getElem (by omega)] at a b; obtain ⟨r, g, _⟩ := DataW.trod_int Tryz.underlying21 a; obtain ⟨s, i⟩ := qg8 b (by rw [List.length_take, List.length_drop, hl]; rfl); have c := qa0 g; refine ⟨⟨r, s⟩, ?_⟩
  match cs, hl with
  | [u0, u1, u2, u3, u4, u5], _ =>
    simp only [List.getElem?_cons_zero, Option.some.injEq] at c; have a1' : [u1, u2, u3, u4, u5] = s.vals := i; rw [c, a1']; rfl
set_option maxRecDepth 100000 in
theorem qhB {n0 : Nat} {v : Value} {x : DataW H × List MemPlace} (hf : DataW.trod enc Tryz.prog w base (fun _ => true) true n0 49 [v] = some x) :
    ∃ (a : Option Addr) (n c : Nat) (l : List X.Cel), v = .slice a n c ∧ (n = 0 ∨ ∃ b off, a = some ⟨b, off, none⟩) ∧ X.Rd w a (X.flat l) ∧ l.length = n := by
  have ce : Tryz.prog.cellsOf 66 = 6 := by kernel_rfl
  rcases Deep.open_slice Tryz.underlying49 hf with ⟨k, _⟩ | ⟨a, d, o, m, n, D, Pl, hv, _, hl, _, hm, _, hx⟩
  · have p : v = .slice (none) 0 0 := List.head_eq_of_cons_eq k
    exact ⟨none, 0, 0, [], p, .inl rfl, X.Rd.nil _ _, rfl⟩
  · have p : v = .slice (some a) d o := List.head_eq_of_cons_eq hv
    have hm' : m = o := by simpa using hm
    rw [ce] at hx; have A : ∀ i, i < d → ∃ y : X.Cel, w.cells? base (a.add (i * 6)) 6 = some y.vals := fun i hi => by
      obtain ⟨cs, s, B⟩ := hx i (by omega); obtain ⟨_, r, _⟩ := World.cells?_some s; obtain ⟨y, rfl⟩ := qhA B r; exact ⟨y, s⟩
    have : Inhabited X.Cel := ⟨X.cel0⟩
    obtain ⟨f, t⟩ := Deep.choose_lt A; refine ⟨some a, d, o, (List.range d).map f, p, ?_, ⟨fun e => (by cases e), fun ad e j u hj => ?_⟩, by simp⟩
    · rcases Nat.eq_zero_or_pos d with k | k
      · exact .inl k
      · right
        obtain ⟨_, _, hc⟩ := World.cells?_some (t 0 k); have h := hc 0 (by omega); rw [Deep.add_add] at h; have g : w.cell? a = some (.int .i32 (f 0).rune) := h; obtain ⟨b, off, sp⟩ := a; cases sp with
        | none => exact ⟨b, off, rfl⟩
        | some q =>
          unfold World.cell? at g; split at g
          · simp at g
          · cases g
    · obtain rfl : a = ad := by injection e
      have r : (X.flat ((List.range d).map f)).length = d * 6 := by rw [X.flat_len]; simp
      have C : j < d * 6 := by
        rw [← r]; exact (List.getElem?_eq_some_iff.1 hj).1
      have hi : j / 6 < d := by omega
      have hr : j % 6 < 6 := by omega
      have z : j = j / 6 * 6 + j % 6 := by omega
      have h := X.flat_get ((List.range d).map f) ((j / 6 : Nat) : Int) (j % 6) (by omega) (by simp; omega) hr; rw [Int.toNat_natCast, ← z, hj] at h; have hg : X.gc ((List.range d).map f) ((j / 6 : Nat) : Int) = f (j / 6) := by rw [X.gc_at (by simpa using hi), List.getElem_map, List.getElem_range]
      rw [hg] at h; obtain ⟨_, _, hc⟩ := World.cells?_some (t (j / 6) hi); have g := hc (j % 6) hr; rw [Deep.add_add, ← z] at g; rw [g, ← h]
theorem agg4 {P : Program} {r : Reach} {b0 : Nat} {t : TypeId} {fs : Array Field} {v : Value} (ht : P.underlying t = some (.struct fs)) (ct : P.cellsOf t = 4) (hval : Value.okWide P w r b0 t v) : ∃ u0 u1 u2 u3, v = .agg #[u0, u1, u2, u3] := by
  obtain ⟨cs, rfl, hs⟩ : ∃ cs, v = .agg cs ∧ cs.size = 4 := by
    unfold Value.okWide at hval; rw [ht] at hval; obtain ⟨cs, e, f, _⟩ := hval; exact ⟨cs, e, by rw [f, ct]⟩
  match hl : cs.toList, (show cs.toList.length = 4 by simpa using hs) with
  | [a, b, c, d], _ => exact ⟨a, b, c, d, by rw [← Array.toArray_toList (xs := cs), hl]⟩
set_option maxRecDepth 100000 in
theorem qje {r : Reach} {b0 : Nat} {v : Value} {d : DataW H} {ps : List MemPlace} (hval : Value.okWide Tryz.prog w r b0 51 v) (hd : DataW.Trod enc Tryz.prog w base (fun _ => true) true 51 v d ps) :
    ∃ (a : Option Addr) (n c : Nat) (l : List X.Cel) (x y : Int) (hid : Bool), v = .agg #[.slice a n c, .int .i64 x, .int .i64 y, .bool hid] ∧ (n = 0 ∨ ∃ b off, a = some ⟨b, off, none⟩) ∧ X.Rd w a (X.flat l) ∧ l.length = n := by
  obtain ⟨u0, u1, u2, u3, rfl⟩ := agg4 Tryz.underlying51 (by kernel_rfl) hval; obtain ⟨C, hf⟩ := hd; obtain ⟨xs, m, _, _, _, o, hf⟩ := DataW.trod_struct Tryz.underlying51 hf; have p : Tryz.prog.cellsOf 4 = 1 := by kernel_rfl
  have q : Tryz.prog.cellsOf 3 = 1 := by kernel_rfl
  have s : Tryz.prog.cellsOf 49 = 1 := by kernel_rfl
  have D : xs.length = 4 := o; have e : DataW.trod enc Tryz.prog w base (fun _ => true) true m 49 (([u0, u1, u2, u3].drop 0).take (Tryz.prog.cellsOf 49)) = xs[0]? := hf 0 _ rfl; have f : DataW.trod enc Tryz.prog w base (fun _ => true) true m 3 (([u0, u1, u2, u3].drop 1).take (Tryz.prog.cellsOf 3)) = xs[1]? := hf 1 _ rfl; have g : DataW.trod enc Tryz.prog w base (fun _ => true) true m 3 (([u0, u1, u2, u3].drop 2).take (Tryz.prog.cellsOf 3)) = xs[2]? := hf 2 _ rfl; have h : DataW.trod enc Tryz.prog w base (fun _ => true) true m 4 (([u0, u1, u2, u3].drop 3).take (Tryz.prog.cellsOf 4)) = xs[3]? := hf 3 _ rfl; rw [s] at e; rw [q] at f g; rw [p] at h; rw [List.getElem?_eq_getElem (by omega)] at e f g h; obtain ⟨a, n, c, l, t, ha, hr, hn⟩ := qhB (v := u0) e; obtain ⟨x, u, _⟩ := DataW.trod_int Tryz.underlying3 f; obtain ⟨y, A, _⟩ := DataW.trod_int Tryz.underlying3 g; obtain ⟨z, B, _⟩ := DataW.trod_bool Tryz.underlying4 h; have i := qa0 u; have j := qa0 A; have k := qa0 B; simp only [List.getElem?_cons_zero, List.getElem?_cons_succ, Option.some.injEq] at i j k; exact ⟨a, n, c, l, x, y, z, by rw [t, i, j, k], ha, hr, hn⟩
set_option maxRecDepth 100000 in
theorem open_box {r : Reach} {b0 : Nat} {v : Value} {d : DataW H} {ps : List MemPlace} (hval : Value.okWide Tryz.prog w r b0 62 v) (hd : DataW.Trod enc Tryz.prog w base (fun _ => true) true 62 v d ps) :
    ∃ b : X.Bx, v = .agg #[.int .i64 b.x, .int .i64 b.y, .int .i64 b.w, .int .i64 b.h] := by
  obtain ⟨u0, u1, u2, u3, rfl⟩ := agg4 Tryz.underlying62 (by kernel_rfl) hval; obtain ⟨t, hf⟩ := hd; obtain ⟨xs, m, _, _, _, l, hf⟩ := DataW.trod_struct Tryz.underlying62 hf; have n : Tryz.prog.cellsOf 3 = 1 := by kernel_rfl
  have u : xs.length = 4 := l; have a : DataW.trod enc Tryz.prog w base (fun _ => true) true m 3 (([u0, u1, u2, u3].drop 0).take (Tryz.prog.cellsOf 3)) = xs[0]? := hf 0 _ rfl; have c : DataW.trod enc Tryz.prog w base (fun _ => true) true m 3 (([u0, u1, u2, u3].drop 1).take (Tryz.prog.cellsOf 3)) = xs[1]? := hf 1 _ rfl; have e : DataW.trod enc Tryz.prog w base (fun _ => true) true m 3 (([u0, u1, u2, u3].drop 2).take (Tryz.prog.cellsOf 3)) = xs[2]? := hf 2 _ rfl; have f : DataW.trod enc Tryz.prog w base (fun _ => true) true m 3 (([u0, u1, u2, u3].drop 3).take (Tryz.prog.cellsOf 3)) = xs[3]? := hf 3 _ rfl; rw [n] at a c e f; rw [List.getElem?_eq_getElem (by omega)] at a c e f; obtain ⟨x, o, _⟩ := DataW.trod_int Tryz.underlying3 a; obtain ⟨y, p, _⟩ := DataW.trod_int Tryz.underlying3 c; obtain ⟨z, q, _⟩ := DataW.trod_int Tryz.underlying3 e; obtain ⟨z', s, _⟩ := DataW.trod_int Tryz.underlying3 f; have g := qa0 o; have i := qa0 p; have j := qa0 q; have k := qa0 s; simp only [List.getElem?_cons_zero, List.getElem?_cons_succ, Option.some.injEq] at g i j k; exact ⟨⟨x, y, z, z'⟩, by rw [g, i, j, k]⟩
end
end Go.Proofs.YtjklgjjgndalcaaGreatDoor
