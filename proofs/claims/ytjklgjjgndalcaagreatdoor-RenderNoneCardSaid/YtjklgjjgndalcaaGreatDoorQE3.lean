/- What the proof of RenderNone needs, part 3: the walks of the program's functions and the plain laws about them. -/
import Derived.Test.YtjklgjjgndalcaaGreatDoorQE2
import Derived.Laws.Strings
set_option linter.unusedSimpArgs false
set_option linter.unusedVariables false
set_option maxHeartbeats 4000000
namespace Go.Proofs.YtjklgjjgndalcaaGreatDoor.X
open Go Go.RowKit Go.Proofs.YtjklgjjgndalcaaGreatDoor
theorem qW {w : World} {t : Nat} {W H : Int} {T : TS} {F : Nat → Prop} (hA : TermAt w t T F) (hT : qR w) (hL : Lim W H T) (x y : Int) : Calls Tryz.prog 83 [pX t, iX x, iX y].toArray w fun e w' => e = .returned (.tuple #[]) ∧ TermAt w' t (qbW T x y) (more F w w') ∧ Ch F w w' := move_at hA x y
theorem exec_at {w : World} {t : Nat} {W H : Int} {T : TS} {F : Nat → Prop} (hA0 : TermAt w t T F) (hT : qR w) (hL : Lim W H T) (c : Int) : Calls Tryz.prog 62 [pX t, uX c].toArray w fun e w' => e = .returned (.tuple #[]) ∧ TermAt w' t (qbX T c) (more F w w') ∧ Ch F w w' := by
 have h := Sep.startT hA0; have hg := Gz.of hA0; have hM := hL; have N := hM.all; refine yA Tryz.func62 rfl <| yx 1 <| qa <| yx 2 <| yc (rE c 8) (fun f => ?_) fun f => ?_
 ·refine zD [12] h fun u h => yd (uL 0 12) [] (.l (h.tc 0 2) (.q6 (T.cursor.x - 1) (.l (h.tc 0 3) .z))) <| yK 12 (yQ (h.met 0 fun F hA hF => qW hA (h.tb hg hT) hL  ((T.cursor.x - 1)) (T.cursor.y)) fun u h => ?_); refine q9 <| yDe (nB (qB ?_)); refine h.tfin hg ?_; simp [qbX, qi6, qal, *]
 refine yx 2 <| yc (rE c 9) (fun g => ?_) fun g => ?_
 ·refine ysr <| yp 7 [] (.l (h.tc 0 2) (.q6 (T.cursor.x + 1) .z)) <| ye <| ys <| qa <| qa2 [0, 4] (f' := [(0, pX t), (4, iX (T.cursor.x + 1))]) <| qG (σ := Nat) (fun k => [(0, pX t), (4, iX (T.cursor.x + 1 + ((k : Nat) : Int)))]) (fun k u => k ≤ 59 ∧ tabN T (60 - k) (T.cursor.x + 1 + ((k : Nat) : Int)) = tabN T 60 (T.cursor.x + 1) ∧ Sep w F u [qbq t T]) (fun k => 60 - k) 0 (by simp) ?_ ?_
  ·exact ⟨by omega, by simp, h.cut rfl rfl⟩
  intro k u v O A; obtain ⟨P, m, h⟩ := v; refine ys <| ysr ?_; obtain ⟨Q, R, h⟩ := h.opn 0; refine yp 11 [] (.l (h.tg 0) (.l (h.gw 0).1 (.q6 (T.grid.w - 1) .z))) <| yw [39] (rL (T.cursor.x + 1 + ((k : Nat) : Int)) (T.grid.w - 1)) (fun B => ?_) fun B => ?_
  ·refine yp 19 [] (.i (T.cursor.x + 1 + ((k : Nat) : Int)) (60) (.l (h.tab 0 ((T.cursor.x + 1 + ((k : Nat) : Int)))) .z)) <| ye <| yc (rN (rY (T.tabs ((T.cursor.x + 1 + ((k : Nat) : Int)) : Int).toNat))) (fun o => ?_) fun o => ?_
   ·refine yk <| qa <| q7 <| yp 3 [] (.q6 ((T.cursor.x + 1 + ((k : Nat) : Int)) + 1) .z) <| yE (nB  (fun a ha => A (k + 1) _ ⟨by omega, by rw [show T.cursor.x + 1 + ((k + 1 : Nat) : Int) = (T.cursor.x + 1 + ((k : Nat) : Int)) + 1 by omega]; exact tabN_go m (by omega) (by omega) (by assumption), h.cut rfl rfl⟩ (by show 60 - (k + 1) < 60 - k; omega) a (by rw [show (T.cursor.x + 1 + ((k + 1 : Nat) : Int)) = (T.cursor.x + 1 + ((k : Nat) : Int)) + 1 by omega]; exact ha.kp [0, 4])))
   have C := qgb m (fun p => by rw [o] at p; exact absurd p.2 (by decide)); refine qv (eS (qe (qb (nS ?_)))); refine q7 <| yp 7 [] (.l (h.tc 0 3) .z) <| yo (yQ (h.met 0 fun F hA hF => qW hA (h.tb hg hT) hL  ((T.cursor.x + 1 + ((k : Nat) : Int))) (T.cursor.y)) fun u h => ?_); refine yE (nB (qB ?_)); refine h.tfin hg ?_; simp [qbX, qi6, qal, *]
  have C := qgb m (fun h => by omega); refine yz 19 <| ycf <| qv (eS (qe (qb (nS ?_)))); refine q7 <| yp 7 [] (.l (h.tc 0 3) .z) <| yo (yQ (h.met 0 fun F hA hF => qW hA (h.tb hg hT) hL  ((T.cursor.x + 1 + ((k : Nat) : Int))) (T.cursor.y)) fun u h => ?_); refine yE (nB (qB ?_)); refine h.tfin hg ?_; simp [qbX, qi6, qal, *]
 refine ys <| yx 2 <| yc (rE c 10) (fun j => ?_) fun j => ?_
 ·refine yk <| yc (rE c 10) (fun b => ?_) fun b => ?_
  ·refine ysr <| yq 1 <| yo (yQ (h.met 0 fun F hA hF => qbr hA (h.tb hg hT) hL  ) fun u h => ?_); refine ye <| q7 <| yq 4 ?_; have q : Lim W H (qay T) := (qaD hL)
   generalize D : (qay T) = T22 at h q; have E := q; have S := E.all; refine yo (zT 0 ({ T22 with cursor := (Cur.mk T22.cursor.x T22.cursor.y false T22.cursor.sty) } : TS) h fun u h => ?_); refine yE (nB (qB ?_)); subst D; refine h.tfin hg ?_; simp only [qbX, qi6, qal, f, g, j, b, ↓reduceIte, Int.reduceEq, Int.reduceLT, Int.reduceLE, sB]
  exfalso; omega
 refine yx 2 <| yc (rE c 11) (fun b => ?_) fun b => ?_
 ·refine yk <| yc (rE c 11) (fun d => ?_) fun d => ?_
  ·refine ysr <| yq 1 <| yo (yQ (h.met 0 fun F hA hF => qbr hA (h.tb hg hT) hL  ) fun u h => ?_); refine ye <| q7 <| yq 4 ?_; have r : Lim W H (qay T) := (qaD hL)
   generalize G : (qay T) = T25 at h r; have I := r; have U := I.all; refine yo (zT 0 ({ T25 with cursor := (Cur.mk T25.cursor.x T25.cursor.y false T25.cursor.sty) } : TS) h fun u h => ?_); refine yE (nB (qB ?_)); subst G; refine h.tfin hg ?_; simp only [qbX, qi6, qal, f, g, j, b, d, ↓reduceIte, Int.reduceEq, Int.reduceLT, Int.reduceLE, sB]
  exfalso; omega
 refine q7 <| yz 2 <| yc (rE c 12) (fun d => ?_) fun d => ?_
 ·refine ysr <| yq 1 <| yo (yQ (h.met 0 fun F hA hF => qbr hA (h.tb hg hT) hL  ) fun u h => ?_); refine ye <| q7 <| yq 4 ?_; have s : Lim W H (qay T) := (qaD hL)
  generalize J : (qay T) = T27 at h s; have K := s; have V := K.all; refine yo (zT 0 ({ T27 with cursor := (Cur.mk T27.cursor.x T27.cursor.y false T27.cursor.sty) } : TS) h fun u h => ?_); refine yE (nB (qB ?_)); subst J; refine h.tfin hg ?_; simp only [qbX, qi6, qal, f, g, j, b, d, ↓reduceIte, Int.reduceEq, Int.reduceLT, Int.reduceLE, sB]
 refine yx 2 <| yc (rE c 13) (fun L => ?_) fun L => ?_
 ·refine q7 <| yp 6 [] (.l (h.tc 0 3) .z) <| yo (yQ (h.met 0 fun F hA hF => qW hA (h.tb hg hT) hL  (0) (T.cursor.y)) fun u h => ?_); refine yE (nB (qB ?_)); refine h.tfin hg ?_; simp [qbX, qi6, qal, *]
 refine ys <| yx 2 <| yc (rE c 14) (fun M => ?_) fun M => ?_
 ·refine yk <| yc (rE c 14) (fun n => ?_) fun n => ?_
  ·refine q7 <| yq 5 <| yo (zT 0 ({ T with shift := ((c : Int) == 14) } : TS) h fun u h => ?_); refine yE (nB (qB ?_)); refine h.tfin hg ?_; simp [qbX, qi6, qal, *]
  exfalso; omega
 refine q7 <| yz 2 <| yc (rE c 15) (fun n => ?_) fun n => ?_
 ·refine q7 <| yq 5 <| yo (zT 0 ({ T with shift := ((c : Int) == 14) } : TS) h fun u h => ?_); refine yE (nB (qB ?_)); refine h.tfin hg ?_; simp [qbX, qi6, qal, *]
 refine qk (nB (qB ?_)); refine h.tfin hg ?_; simp [qbX, qi6, qal, *]
structure Ac where
 kind : Int
 rune : Int
 last : Int
 marks : ByteArray
 params : List Int
 text : ByteArray
abbrev qi7 : TypeId := 90
def Ac.vals (a : Ac) (ps : Value) : List Value := [.int .i64 a.kind, .int .i32 a.rune, .int .u8 a.last, .string a.marks, ps, .string a.text]
def PS.vals (p : PS) (ps : Value) : List Value := [.int .i64 p.state, .int .u8 p.utf.b0, .int .u8 p.utf.b1, .int .u8 p.utf.b2, .int .i64 p.utf.n, .string p.marks, ps, .string p.text, .int .i64 p.within]
def atP (s : Int) : PS := ⟨s, ⟨0, 0, 0, 0⟩, ByteArray.empty, [], ByteArray.empty, 0⟩
def acP (r : Int) : Ac := ⟨0, r, 0, ByteArray.empty, [], ByteArray.empty⟩
def acX (c : Int) : Ac := ⟨1, 0, c, ByteArray.empty, [], ByteArray.empty⟩
def IntsAt (w : World) (k : IntKind) (o : Option Nat) (n c : Nat) (l : List Int) (K : Nat → Prop) : Prop :=
 Rd w (o.map at0) (l.map (Value.int k)) ∧ l.length = n ∧ (o = none → c = 0) ∧ ∀ b, o = some b → K b ∧ b < w.heap.size
theorem IntsAt.ch {w w' : World} {k : IntKind} {o : Option Nat} {n c : Nat} {l : List Int} {K B : Nat → Prop} (h : IntsAt w k o n c l K) (hc : Ch B w w') (hB : ∀ b, K b → ¬ B b) : IntsAt w' k o n c l K :=
 ⟨h.1.ch hc fun ad e => by
  cases o with
  | none => cases e
  | some b => cases e; exact hB b (h.2.2.2 b rfl).1, h.2.1, h.2.2.1, fun b e => ⟨(h.2.2.2 b e).1, Nat.lt_of_lt_of_le (h.2.2.2 b e).2 hc.size⟩⟩
theorem IntsAt.mono {w : World} {k : IntKind} {o : Option Nat} {n c : Nat} {l : List Int} {K K' : Nat → Prop} (h : IntsAt w k o n c l K) (hK : ∀ b, K b → K' b) : IntsAt w k o n c l K' :=
 ⟨h.1, h.2.1, h.2.2.1, fun b e => ⟨hK b (h.2.2.2 b e).1, (h.2.2.2 b e).2⟩⟩
theorem IntsAt.nil (w : World) (k : IntKind) (K : Nat → Prop) : IntsAt w k none 0 0 [] K := ⟨Rd.nil _ _, rfl, fun _ => rfl, fun _ e => by cases e⟩
def ActV (w : World) (vs : List Value) (a : Ac) (K : Nat → Prop) : Prop := ∃ o n c, vs = a.vals (.slice (o.map at0) n c) ∧ IntsAt w .i64 o n c a.params K
structure ActsAt (w : World) (o : Option Nat) (n c : Nat) (l : List Ac) (K : Nat → Prop) : Prop where
 ex : ∃ vss : List (List Value), Own w qi7 6 o n c vss.flatten ∧ vss.length = l.length ∧ ∀ i (h : i < l.length) (h' : i < vss.length), ActV w vss[i] l[i] K
 len : l.length = n
 oK : ∀ b, o = some b → K b
theorem ActV.ch {w w' : World} {vs : List Value} {a : Ac} {K B : Nat → Prop} (h : ActV w vs a K) (hc : Ch B w w') (hB : ∀ b, K b → ¬ B b) : ActV w' vs a K := by
 obtain ⟨o, n, c, e, h⟩ := h
 exact ⟨o, n, c, e, h.ch hc hB⟩
theorem ActV.mono {w : World} {vs : List Value} {a : Ac} {K K' : Nat → Prop} (h : ActV w vs a K) (hK : ∀ b, K b → K' b) : ActV w vs a K' := by
 obtain ⟨o, n, c, e, h⟩ := h
 exact ⟨o, n, c, e, h.mono hK⟩
theorem ActV.len {w : World} {vs : List Value} {a : Ac} {K : Nat → Prop} (h : ActV w vs a K) : vs.length = 6 := by
 obtain ⟨o, n, c, rfl, h⟩ := h; rfl
theorem ActsAt.ch {w w' : World} {o : Option Nat} {n c : Nat} {l : List Ac} {K B : Nat → Prop} (h : ActsAt w o n c l K) (hc : Ch B w w') (hB : ∀ b, K b → ¬ B b) : ActsAt w' o n c l K := by
 obtain ⟨vss, h1, h2, h3⟩ := h.ex
 exact ⟨⟨vss, h1.ch hc fun g e => hB g (h.oK g e), h2, fun i hi hi' => (h3 i hi hi').ch hc hB⟩, h.len, h.oK⟩
theorem ActsAt.mono {w : World} {o : Option Nat} {n c : Nat} {l : List Ac} {K K' : Nat → Prop} (h : ActsAt w o n c l K) (hK : ∀ b, K b → K' b) : ActsAt w o n c l K' := by
 obtain ⟨vss, h1, h2, h3⟩ := h.ex
 exact ⟨⟨vss, h1, h2, fun i hi hi' => (h3 i hi hi').mono hK⟩, h.len, fun b e => hK b (h.oK b e)⟩
theorem ActsAt.nil (w : World) (K : Nat → Prop) : ActsAt w none 0 0 [] K := ⟨⟨[], Own.nil _ _ _, rfl, fun i h => by simp at h⟩, rfl, fun b e => by cases e⟩
theorem qgQ {vss : List (List Value)} (h : ∀ v ∈ vss, v.length = 6) {i : Nat} (hi : i < vss.length) {k : Nat} (hk : k < 6) : vss.flatten[i * 6 + k]? = vss[i][k]? := by
 induction vss generalizing i with
 | nil => simp at hi
 | cons v vss ih =>
  have hv := h v (List.mem_cons_self ..)
  cases i with
  | zero => simp [List.getElem?_append_left, hv, hk]
  | succ i =>
   rw [List.flatten_cons, List.getElem?_append_right (by omega), hv, show (i + 1) * 6 + k - 6 = i * 6 + k by omega]
   exact ih (fun x hx => h x (List.mem_cons_of_mem _ hx)) (by simpa using hi)
abbrev tInt : TypeId := 3
abbrev qgR : TypeId := 21
theorem qc8 (l : List Int) {k : IntKind} : ((l.map (Value.int k)).all fun c => c.oneCell') = true := by
 refine List.all_eq_true.2 fun v hv => ?_
 obtain ⟨x, _, rfl⟩ := List.mem_map.1 hv
 rfl
theorem qam (c : Int) : (qD [c]).size = 1 := rfl
theorem IntsAt.old {w : World} {k : IntKind} {o : Option Nat} {n c : Nat} {l : List Int} {K : Nat → Prop} {w0 w1 : World} (h : IntsAt w k o n c l K) : IntsAt w k o n c l (fun b => o = some b ∨ (w0.heap.size ≤ b ∧ b < w1.heap.size)) :=
 ⟨h.1, h.2.1, h.2.2.1, fun b e => ⟨.inl e, (h.2.2.2 b e).2⟩⟩
theorem IntsAt.or {w : World} {k : IntKind} {o : Option Nat} {n c : Nat} {l : List Int} {K A : Nat → Prop} (h : IntsAt w k o n c l K) : IntsAt w k o n c l (fun b => A b ∨ K b) := h.mono fun _ h => .inr h
theorem ActsAt.one {w : World} {b : Nat} {K : Nat → Prop} {a : Ac} {ps : Value} (h : Blk w b (a.vals ps) qi7) (hb : K b) (hp : ∃ o n c, ps = .slice (o.map at0) n c ∧ IntsAt w .i64 o n c a.params K) : ActsAt w (some b) 1 1 [a] K := by
 obtain ⟨o, n, c, rfl, hp⟩ := hp
 refine ⟨⟨[a.vals (.slice (o.map at0) n c)], ?_, rfl, fun i hi hi' => ?_⟩, rfl, fun b' e => by cases e; exact hb⟩
 ·simp only [List.flatten_cons, List.flatten_nil, List.append_nil]
  exact Own.blk h rfl (by decide)
 ·obtain rfl : i = 0 := by simpa using hi
  exact ⟨o, n, c, rfl, hp⟩
def Fed (w w' : World) (e : Ending) (po : Option Nat) (p' : PS) (l : List Ac) : Prop :=
 ∃ po' pn' pc' o n c, e = .returned (.tuple #[.agg (p'.vals (.slice (po'.map at0) pn' pc')).toArray, .slice (o.map at0) n c]) ∧
  IntsAt w' .i64 po' pn' pc' p'.params (fun b => po = some b ∨ (w.heap.size ≤ b ∧ b < w'.heap.size)) ∧ ActsAt w' o n c l (fun b => (w.heap.size ≤ b ∧ b < w'.heap.size) ∧ po' ≠ some b) ∧ Ch (fun _ => False) w w'
theorem Fed.mk2 {w w' : World} {e : Ending} {po : Option Nat} {p' q : PS} {l m : List Ac} (po' : Option Nat) (pn' pc' : Nat) (o : Option Nat) (n c : Nat) (he : e = .returned (.tuple #[.agg (p'.vals (.slice (po'.map at0) pn' pc')).toArray, .slice (o.map at0) n c]))
  (hp : IntsAt w' .i64 po' pn' pc' p'.params (fun b => po = some b ∨ (w.heap.size ≤ b ∧ b < w'.heap.size))) (ha : ActsAt w' o n c l (fun b => (w.heap.size ≤ b ∧ b < w'.heap.size) ∧ po' ≠ some b)) (hc : Ch (fun _ => False) w w') (hq : q = p' ∧ m = l) : Fed w w' e po q m := by
 obtain ⟨rfl, rfl⟩ := hq
 exact ⟨po', pn', pc', o, n, c, he, hp, ha, hc⟩
theorem Fed.mk' {w w' : World} {e : Ending} {po : Option Nat} {p' q : PS} {l m : List Ac} (po' : Option Nat) (pn' pc' : Nat) (o : Option Nat) (n c : Nat) (hx : (o = none ∧ n = 0 ∧ c = 0 ∧ l = []) ∨ ∀ b, po' = some b → b < w.heap.size) (he : e = .returned (.tuple #[.agg (p'.vals (.slice (po'.map at0) pn' pc')).toArray, .slice (o.map at0) n c]))
  (hp : IntsAt w' .i64 po' pn' pc' p'.params (fun b => po = some b ∨ (w.heap.size ≤ b ∧ b < w'.heap.size))) (ha : ActsAt w' o n c l (fun b => w.heap.size ≤ b ∧ b < w'.heap.size)) (hc : Ch (fun _ => False) w w') (hq : q = p' ∧ m = l) : Fed w w' e po q m := by
 refine Fed.mk2 po' pn' pc' o n c he hp ?_ hc hq
 rcases hx with ⟨rfl, rfl, rfl, rfl⟩ | hx
 ·exact ActsAt.nil _ _
 ·exact ha.mono fun b hb => ⟨hb, fun e => by have := hx b e; omega⟩
def qah (l : List Int) : List Int := if l.length = 0 then [0] else l
theorem qd9 (l : List Int) : 1 ≤ (qah l).length ∧ (qah l).length ≤ max l.length 1 := by
 unfold qah
 split
 ·simp; omega
 ·omega
def qda (l : List Int) : Int := l.getD (l.length - 1) 0
def qcw (l : List Int) (x : Int) : List Int := l.set (l.length - 1) x
theorem qa0 {l : List Int} {a b : Int} (h : ∀ x ∈ l, a ≤ x ∧ x ≤ b) (h0 : a ≤ 0 ∧ 0 ≤ b) (i : Nat) : a ≤ l.getD i 0 ∧ l.getD i 0 ≤ b := by
 rw [List.getD]
 by_cases hi : i < l.length
 ·rw [List.getElem?_eq_getElem hi]; exact h _ (List.getElem_mem _)
 ·rw [List.getElem?_eq_none (by omega)]; exact h0
theorem qgc {l : List Int} (h : ∀ x ∈ l, 0 ≤ x ∧ x ≤ 9999) : 0 ≤ qda (qah l) ∧ qda (qah l) ≤ 9999 := by
 refine qa0 (a := 0) (b := 9999) (fun x hx => ?_) (by decide) _
 unfold qah at hx
 split at hx
 ·simp at hx; omega
 ·exact h x hx
theorem qi8 {w : World} {b n c : Nat} {l : List Int} {i : Int} (h : Own w tInt 1 (some b) n c (l.map (Value.int .i64))) (hi : i = (n : Int) - 1 ∧ 1 ≤ n) : w.cell? ⟨b, 0 + i.toNat * 1, none⟩ = some (.int .i64 (qda l)) := by
 have hl : l.length = n := by have := h.1; rw [List.length_map] at this; omega
 refine qbe h.rd _ _ ?_
 rw [List.getElem?_map, Nat.mul_one, show i.toNat = l.length - 1 by omega, List.getElem?_eq_getElem (by omega)]
 simp [qda, List.getD, List.getElem?_eq_getElem (show l.length - 1 < l.length by omega)]
theorem qf6 {w w' : World} {b n c : Nat} {l : List Int} {r : List Value} {i x : Int} (h : Own w tInt 1 (some b) n c (l.map (Value.int .i64))) (hr : r.length = (c - n) * 1) (hi : i = (n : Int) - 1 ∧ 1 ≤ n)
  (hb : Blk w' b (put (l.map (Value.int .i64) ++ r) (0 + i.toNat * 1) [.int .i64 x]) tInt) : Own w' tInt 1 (some b) n c ((qcw l x).map (Value.int .i64)) := by
 have hl : l.length = n := by have := h.1; rw [List.length_map] at this; omega
 rw [show i.toNat = n - 1 by omega] at hb
 have := qfF (v := .int .i64 x) h hr (by omega) hb
 unfold qcw
 rw [List.map_set, hl]
 exact this
def qm (p : PS) (s : Int) : PS × List Ac := (atP 0, [⟨if s = 6 then 5 else 4, 0, 0, ByteArray.empty, [], p.text⟩])
def qj (p : PS) (c : Int) : PS × List Ac :=
 if c < 48 then (if (p.marks.size : Int) < 2 then { p with marks := p.marks ++ qD [c], state := 2 } else { p with state := 2 }, [])
 else if p.state = 1 ∧ c = 91 then (atP 3, [])
 else if p.state = 1 ∧ c = 93 then (atP 5, [])
 else if p.state = 1 ∧ c = 80 then (atP 6, [])
 else (atP 0, [⟨2, 0, c, p.marks, [], ByteArray.empty⟩])
def qz (p : PS) (c : Int) : PS × List Ac :=
 if c = 27 then ({ p with within := p.state, state := 7 }, [])
 else if c = 7 ∧ p.state = 5 then qm p 5
 else if c = 24 ∨ c = 26 then (atP 0, [])
 else if 32 ≤ c ∧ (p.text.size : Int) < 40 then ({ p with text := p.text ++ qD [c] }, [])
 else (p, [])
def qaE (p : PS) (c : Int) : PS × List Ac :=
 if 48 ≤ c ∧ c ≤ 57 then ({ p with params := qcw (qah p.params) (min (10 * qda (qah p.params) + (c - 48)) 9999) }, [])
 else if c = 59 then (if ((qah p.params).length : Int) < 8 then { p with params := qah p.params ++ [0] } else { p with params := qah p.params }, [])
 else if 64 ≤ c then (if p.state = 4 then (atP 0, []) else (atP 0, [⟨3, 0, c, p.marks, p.params, ByteArray.empty⟩]))
 else if (p.marks.size : Int) = 2 ∨ c = 58 then ({ p with state := 4 }, [])
 else ({ p with marks := p.marks ++ qD [c] }, [])
def qdv (e : TypeId) (sz : Nat) (o : Option Nat) (n cap : Nat) (xs : List Value) : Asn :=
 ⟨fun w F => Own w e sz o n cap xs ∧ ∀ b, o = some b → F b, fun h hc hn => ⟨h.1.ch hc fun b e => hn b (h.2 b e), h.2⟩, fun h hF _ => ⟨h.1, fun b e => hF b (h.2 b e)⟩⟩
section
variable {w0 w w' : World} {F0 : Nat → Prop} {l : List Asn} {e : TypeId} {sz : Nat} {o : Option Nat} {n cap i : Nat} {xs : List Value}
theorem Sep.own (h : Sep w0 F0 w l) (i : Nat) (hi : l[i]? = some (qdv e sz o n cap xs) := by rfl) : Own w e sz o n cap xs := by
 obtain ⟨F, h1, _⟩ := h.at hi
 exact h1.1
theorem Sep.newo (h : Sep w0 (fun _ => False) w l) (i : Nat) (hi : l[i]? = some (qdv e sz o n cap xs) := by rfl) : ∀ b, o = some b → w0.heap.size ≤ b ∧ b < w.heap.size := fun b hb => by
 obtain ⟨F, h1, h2, h3⟩ := h.ex
 have := h3 i b ((h1 i _ hi).2 b hb)
 exact ⟨this.1.elim False.elim id, this.2⟩
theorem Sep.newb {b : Nat} {cs : List Value} {t : TypeId} (h : Sep w0 (fun _ => False) w l) (i : Nat) (hi : l[i]? = some (qg b cs t) := by rfl) : w0.heap.size ≤ b ∧ b < w.heap.size := by
 obtain ⟨F, h1, h2, h3⟩ := h.ex
 have := h3 i b (h1 i _ hi).2
 exact ⟨this.1.elim False.elim id, this.2⟩
theorem Sep.nums {k : IntKind} {m : List Int} (h : Sep w0 (fun _ => False) w l) (i : Nat) (hi : l[i]? = some (qdv e 1 o n cap (m.map (Value.int k))) := by rfl) : IntsAt w k o n cap m (fun b => w0.heap.size ≤ b ∧ b < w.heap.size) :=
 have hO := h.own i hi
 ⟨hO.rd, by have := hO.1; rw [List.length_map] at this; omega, fun e => (hO.2.2.2.1 e).2, fun b e => ⟨h.newo i hi b e, (h.newo i hi b e).2⟩⟩
theorem Sep.push {o' : Option Nat} {n' cap' : Nat} {zs : List Value} (h : Sep w0 F0 w l) (hi : l[i]? = some (qdv e sz o n cap xs)) (hO : Own w' e sz o' n' cap' zs) (hne : o' = o ∨ ∃ g, o' = some g ∧ w.heap.size ≤ g) (hc : Ch (fun b => o = some b) w w') : Sep w0 F0 w' (l.set i (qdv e sz o' n' cap' zs)) := by
 obtain ⟨F, h1, h2, h3⟩ := h.ex
 have ho := (h1 i _ hi).2
 refine h.upd hi F h1 h2 h3 ⟨hO, fun b e => ?_⟩ (hc.mono fun b _ hb => ho b hb)
 rcases hne with rfl | ⟨g, rfl, hg⟩
 ·exact .inl (ho b e)
 ·obtain rfl := Option.some.inj e
  exact .inr ⟨hg, hO.lt⟩
theorem Sep.fresh {o' : Option Nat} {n' cap' : Nat} {zs : List Value} (h : Sep w0 F0 w l) (hO : Own w' e sz o' n' cap' zs) (hne : ∀ g, o' = some g → w.heap.size ≤ g) (hc : Ch (fun _ => False) w w') : Sep w0 F0 w' (l ++ [qdv e sz o' n' cap' zs]) :=
 h.add (G := fun b => o' = some b) ⟨hO, fun b e => e⟩ (fun b e => ⟨hne b e, by subst e; exact hO.lt⟩) hc
end
section
variable {P : Program} {N : Nat} {ops : Array Oper} {Q : Exit → Act → World → Prop} {f : Fr} {k : Nat} {K : Act → World → Prop} {w0 w : World} {F0 : Nat → Prop} {l : List Asn}
theorem zA {e : TypeId} {sz : Nat} {o : Option Nat} {n cap : Nat} {xs : List Value} {a2 : Option Addr} {ys : List Value} (i bs m c2 t : Nat) (zs : List Value) (h : Sep w0 F0 w l) (hr : Rd w a2 ys) (h1 : (ys.all fun c => c.oneCell') = true) (hK : ∀ w' og cp, Sep w0 F0 w' (l.set i (qdv e sz og t cp zs)) → (0 < t → ∃ g, og = some g) → ∀ a', Has N (pushd (dO ops k) (.slice (og.map at0) t cp) f) a' → K a' w')
  (ha : qeO P N ops f k = some (e, sz, bs, .slice (o.map at0) n cap, .slice a2 m c2, dO ops k) := by kernel_rfl) (hi : l[i]? = some (qdv e sz o n cap xs) := by rfl) (ht : n + m = t := by rfl) (hz : xs ++ ys = zs := by rfl) (hy : ys.length = m * sz := by rfl) (hn2 : a2 = none → c2 = 0 := by intro h; cases h)
  (hb : t ≤ maxLen ∧ t * bs ≤ 140737488355328 := by constructor <;> first | omega | (simp only [maxLen]; omega)) : ∀ a, Has N f a → wpOp P ops Q k K a w :=
 qaV e sz bs o n cap xs a2 m c2 ys _ t ht zs hz ha (h.own i hi) hr hy h1 hn2 hb fun w' og cp hO hne hpos hc => hK w' og cp (h.push hi hO hne hc) hpos
theorem zA0 {a2 : Option Addr} {m c2 : Nat} {ys : List Value} (e : TypeId) (sz bs : Nat) (h : Sep w0 F0 w l) (hr : Rd w a2 ys) (h1 : (ys.all fun c => c.oneCell') = true) (hy : ys.length = m * sz) (hn2 : a2 = none → c2 = 0) (hK : ∀ w' og cp, Sep w0 F0 w' (l ++ [qdv e sz og m cp ys]) → (0 < m → ∃ g, og = some g) → ∀ a', Has N (pushd (dO ops k) (.slice (og.map at0) m cp) f) a' → K a' w')
  (ha : qeO P N ops f k = some (e, sz, bs, .slice ((none : Option Nat).map at0) 0 0, .slice a2 m c2, dO ops k) := by kernel_rfl) (hb : m ≤ maxLen ∧ m * bs ≤ 140737488355328 := by constructor <;> first | omega | (simp only [maxLen]; omega)) : ∀ a, Has N f a → wpOp P ops Q k K a w :=
 qaV e sz bs none 0 0 [] a2 m c2 ys _ m (Nat.zero_add m) ys rfl ha (Own.nil _ _ _) hr hy h1 hn2 hb fun w' og cp hO hne hpos hc => hK w' og cp (h.fresh hO (fun g e => hne.elim (fun h => by rw [h] at e; cases e) fun ⟨g', h, h'⟩ => by rw [h] at e; exact Option.some.inj e ▸ h') (hc.mono fun _ _ h => by cases h)) hpos
end
theorem qcm {P : Program} {N : Nat} {fn : Func} {f : Fr} {w0 w : World} {po : Option Nat} {q : PS} {m : List Ac} {cs : List (World → Prop)} {lv : List Value} (hp : Pf w cs lv) (p' : PS) (l : List Ac) (po' : Option Nat) (pn' pc' : Nat) (o : Option Nat) (n c : Nat) (hx : (o = none ∧ n = 0 ∧ c = 0 ∧ l = []) ∨ ∀ b, po' = some b → b < w0.heap.size)
  (hi : IntsAt w .i64 po' pn' pc' p'.params (fun b => po = some b ∨ (w0.heap.size ≤ b ∧ b < w.heap.size))) (ha : ActsAt w o n c l (fun b => w0.heap.size ≤ b ∧ b < w.heap.size)) (hc : Ch (fun _ => False) w0 w) (hq : q = p' ∧ m = l)
  (hr : qhJ P f fn.results.toList lv = some ([.agg (p'.vals (.slice (po'.map at0) pn' pc')).toArray, .slice (o.map at0) n c], cs) := by kernel_rfl) : ∀ a, Has N f a → bodyPost P fn (fun e w' => Fed w0 w' e po q m) .ret a w :=
 yR2 _ hp (Fed.mk' (p' := p') (l := l) po' pn' pc' o n c hx rfl hi ha hc hq) hr
theorem qN (s : Int) (w : World) : Calls Tryz.prog 57 [iX s].toArray w fun e w' => e = .returned (.agg ((atP s).vals (nX)).toArray) ∧ Ch (fun _ => False) w w' := by
 refine yA Tryz.func57 rfl <| ysr <| yo (yN [iX 0, uX 0, uX 0, uX 0, iX 0, oX, nX, oX, iX 0] 44 fun m b c n d f => ?_); have o := zn c (zm w); have g := zu (zm w) f iZ; refine ye <| ysr <| yq 2 <| yo (yT [iX s, uX 0, uX 0, uX 0, iX 0, oX, nX, oX, iX 0] d fun p j k => ?_); have l := zu g k (fun i hi (h : i = b) => by omega); refine ye <| q8 (qdq (.agg #[iX s, uX 0, uX 0, uX 0, iX 0, oX, nX, oX, iX 0]) (.a (j.cs 0 9) .z) ?_); exact ⟨rfl, Up.ch l⟩
theorem qdO {w : World} {po : Option Nat} {pn pc : Nat} {p : PS} (hP : IntsAt w .i64 po pn pc p.params (fun b => po = some b)) (s : Int) : Calls Tryz.prog 56 [.agg #[iX p.state, uX p.utf.b0, uX p.utf.b1, uX p.utf.b2, iX p.utf.n, .string p.marks, .slice (po.map at0) pn pc, .string p.text, iX p.within], iX s].toArray w fun e w' => Fed w w' e po (qm p s).1 (qm p s).2 := by
 have h := Sep.nil w; refine yA Tryz.func56 rfl <| ysr <| yo (zN [iX p.state, uX p.utf.b0, uX p.utf.b1, uX p.utf.b2, iX p.utf.n, .string p.marks, .slice (po.map at0) pn pc, .string p.text, iX p.within] 44 h fun u o h => ?_); refine yo (zN [iX 0, uX 0, uX 0, uX 0, iX 0, oX, nX, oX, iX 0] 44 h fun u q h => ?_); refine yz 3 <| yx 1 <| ys <| yx 2 <| yc (rE s 6) (fun d => ?_) fun d => ?_
 ·refine q7 <| yz 1 <| ys <| zDC [5] [0] h fun u h => ydF (uL 1 4) [] h.on (fun u h => (.l (h.c 0 7) .z)) <| qc7 0 5 (by kernel_rfl) (by decide) ?_ ?_
  ·refine qi 0 _ (by kernel_rfl) rfl (yQ (h.look (qN 0 _)) fun u h => ?_); refine zH h <| qc7 5 6 (by kernel_rfl) (by decide) ?_ ?_
   ·refine qa9 5 _ (by kernel_rfl) rfl (zB [iX 5, rX 0, uX 0, oX, nX, .string p.text] 90 1 h fun u f h => ?_); refine zK (is := [0]) h <| yH 6 (zs h 1 fun u h => ?_); refine zHs h <| ydF [7] [] h.on (fun u h => .z) <| yDe (nS ?_); refine q8 (qcm (.a (h.cs 1 0 9) .z) (atP 0) [Ac.mk 5 0 0 ByteArray.empty [] p.text] none 0 0 (some f) 1 1 (.inr (fun b h => by cases h)) (IntsAt.nil _ _ _) (ActsAt.one (h.b 2) (h.newb 2) ⟨none, 0, 0, rfl, IntsAt.nil _ _ _⟩) h.ch ?_); simp [qm, atP, *]
   refine qi 6 _ (by kernel_rfl) rfl (zs h 1 fun u h => ?_); refine zHs h <| yK 5 (zB [iX 5, rX 0, uX 0, oX, nX, .string p.text] 90 1 h fun u g h => ?_); refine q9 <| yd [7] [] .z <| yDe (nS ?_); refine q8 (qcm (.a (h.cs 1 0 9) .z) (atP 0) [Ac.mk 5 0 0 ByteArray.empty [] p.text] none 0 0 (some g) 1 1 (.inr (fun b h => by cases h)) (IntsAt.nil _ _ _) (ActsAt.one (h.b 2) (h.newb 2) ⟨none, 0, 0, rfl, IntsAt.nil _ _ _⟩) h.ch ?_); simp [qm, atP, *]
  refine qa9 5 _ (by kernel_rfl) rfl (zB [iX 5, rX 0, uX 0, oX, nX, .string p.text] 90 1 h fun u i h => ?_); refine zK (is := [0]) h <| yH 0 (yQ (h.look (qN 0 _)) fun u h => ?_); refine zH h <| yH 6 (zs h 1 fun u h => ?_); refine zHs h <| ydF [7] [] h.on (fun u h => .z) <| yDe (nS ?_); refine q8 (qcm (.a (h.cs 1 0 9) .z) (atP 0) [Ac.mk 5 0 0 ByteArray.empty [] p.text] none 0 0 (some i) 1 1 (.inr (fun b h => by cases h)) (IntsAt.nil _ _ _) (ActsAt.one (h.b 2) (h.newb 2) ⟨none, 0, 0, rfl, IntsAt.nil _ _ _⟩) h.ch ?_); simp [qm, atP, *]
 refine yk <| ys <| zDC [5] [0] h fun u h => ydF (uL 1 4) [] h.on (fun u h => (.l (h.c 0 7) .z)) <| qc7 0 5 (by kernel_rfl) (by decide) ?_ ?_
 ·refine qi 0 _ (by kernel_rfl) rfl (yQ (h.look (qN 0 _)) fun u h => ?_); refine zH h <| qc7 5 6 (by kernel_rfl) (by decide) ?_ ?_
  ·refine qa9 5 _ (by kernel_rfl) rfl (zB [iX 4, rX 0, uX 0, oX, nX, .string p.text] 90 1 h fun u j h => ?_); refine zK (is := [0]) h <| yH 6 (zs h 1 fun u h => ?_); refine zHs h <| ydF [7] [] h.on (fun u h => .z) <| yDe (nS ?_); refine q8 (qcm (.a (h.cs 1 0 9) .z) (atP 0) [Ac.mk 4 0 0 ByteArray.empty [] p.text] none 0 0 (some j) 1 1 (.inr (fun b h => by cases h)) (IntsAt.nil _ _ _) (ActsAt.one (h.b 2) (h.newb 2) ⟨none, 0, 0, rfl, IntsAt.nil _ _ _⟩) h.ch ?_); simp [qm, atP, *]
  refine qi 6 _ (by kernel_rfl) rfl (zs h 1 fun u h => ?_); refine zHs h <| yK 5 (zB [iX 4, rX 0, uX 0, oX, nX, .string p.text] 90 1 h fun u k h => ?_); refine q9 <| yd [7] [] .z <| yDe (nS ?_); refine q8 (qcm (.a (h.cs 1 0 9) .z) (atP 0) [Ac.mk 4 0 0 ByteArray.empty [] p.text] none 0 0 (some k) 1 1 (.inr (fun b h => by cases h)) (IntsAt.nil _ _ _) (ActsAt.one (h.b 2) (h.newb 2) ⟨none, 0, 0, rfl, IntsAt.nil _ _ _⟩) h.ch ?_); simp [qm, atP, *]
 refine qa9 5 _ (by kernel_rfl) rfl (zB [iX 4, rX 0, uX 0, oX, nX, .string p.text] 90 1 h fun u m h => ?_); refine zK (is := [0]) h <| yH 0 (yQ (h.look (qN 0 _)) fun u h => ?_); refine zH h <| yH 6 (zs h 1 fun u h => ?_); refine zHs h <| ydF [7] [] h.on (fun u h => .z) <| yDe (nS ?_); refine q8 (qcm (.a (h.cs 1 0 9) .z) (atP 0) [Ac.mk 4 0 0 ByteArray.empty [] p.text] none 0 0 (some m) 1 1 (.inr (fun b h => by cases h)) (IntsAt.nil _ _ _) (ActsAt.one (h.b 2) (h.newb 2) ⟨none, 0, 0, rfl, IntsAt.nil _ _ _⟩) h.ch ?_); simp [qm, atP, *]
theorem qdP {w : World} {po : Option Nat} {pn pc : Nat} {p : PS} (hP : IntsAt w .i64 po pn pc p.params (fun b => po = some b)) (c : Int) : Calls Tryz.prog 60 [.agg #[iX p.state, uX p.utf.b0, uX p.utf.b1, uX p.utf.b2, iX p.utf.n, .string p.marks, .slice (po.map at0) pn pc, .string p.text, iX p.within], uX c].toArray w fun e w' => Fed w w' e po (qj p c).1 (qj p c).2 := by
 have h := Sep.nil w; refine yA Tryz.func60 rfl <| ysr <| yo (zN [iX p.state, uX p.utf.b0, uX p.utf.b1, uX p.utf.b2, iX p.utf.n, .string p.marks, .slice (po.map at0) pn pc, .string p.text, iX p.within] 44 h fun u A h => ?_); refine yo (zN [iX 0, uX 0, uX 0, uX 0, iX 0, oX, nX, oX, iX 0] 44 h fun u B h => ?_); refine yz 3 <| ys <| qa <| yx 3 <| yc (rL c 48) (fun i => ?_) fun i => ?_
 ·refine ys <| ysr <| yp 4 [] (.l (h.c 0 5) .z) <| ye <| yc (rL ((p.marks).size : Int) 2) (fun d => ?_) fun d => ?_
  ·refine q7 <| yp 3 [] (.l (h.c 0 5) .z) <| yo (zB [uX c] 5 1 h fun u j h => ?_); refine yo (qco (some ⟨j, 0, none⟩) 1 1 [c] (some 17) (by kernel_rfl) (Rd.all (h.b 2)) rfl ?_); refine yp 7 [] (.p (q := (p.marks).size + ((qD [c])).size ≤ 9223372036854775807) (by simp only [qam]; omega) .z) <| yo (zs h 0 fun u h => ?_); refine ye <| ysr <| yq 1 <| yo (zs h 0 fun u h => ?_); refine ye <| ysr <| yp 1 [] (.a (h.cs 0 0 9) .z) <| yo (zs h 1 fun u h => ?_); refine yz 3 <| q8 (rB (rS (qcm (.a (h.cs 1 0 9) .z) { p with state := 2, marks := (p.marks ++ (qD [c])) } [] po pn pc none 0 0 (.inl ⟨rfl, rfl, rfl, rfl⟩) (hP.ch h.ch fun _ _ h => h.elim).old (ActsAt.nil _ _) h.ch ?_))); simp [qj, atP, *]
  refine yk <| ysr <| yq 1 <| yo (zs h 0 fun u h => ?_); refine ye <| ysr <| yp 1 [] (.a (h.cs 0 0 9) .z) <| yo (zs h 1 fun u h => ?_); refine yz 3 <| q8 (rB (rS (qcm (.a (h.cs 1 0 9) .z) { p with state := 2 } [] po pn pc none 0 0 (.inl ⟨rfl, rfl, rfl, rfl⟩) (hP.ch h.ch fun _ _ h => h.elim).old (ActsAt.nil _ _) h.ch ?_))); simp [qj, atP, *]
 refine ysr <| yp 4 [] (.l (h.c 0 0) .z) <| yw [26] (rE p.state 1) (fun d => ?_) fun d => ?_
 ·refine yz 8 <| yc (rE c 91) (fun f => ?_) fun f => ?_
  ·refine ysr <| yo (yQ (h.look (qN 3 _)) fun u h => ?_); refine yo (zs h 1 fun u h => ?_); refine yz 3 <| q8 (rB (rS (qcm (.a (h.cs 1 0 9) .z) (atP 3) [] none 0 0 none 0 0 (.inl ⟨rfl, rfl, rfl, rfl⟩) (IntsAt.nil _ _ _) (ActsAt.nil _ _) h.ch ?_))); simp [qj, atP, *]
  refine ysr <| yp 4 [] (.l (h.c 0 0) .z) <| yw [35] (rE p.state 1) (fun g => ?_) fun g => ?_
  ·refine yz 8 <| yc (rE c 93) (fun k => ?_) fun k => ?_
   ·refine ysr <| yo (yQ (h.look (qN 5 _)) fun u h => ?_); refine yo (zs h 1 fun u h => ?_); refine yz 3 <| q8 (rB (rS (qcm (.a (h.cs 1 0 9) .z) (atP 5) [] none 0 0 none 0 0 (.inl ⟨rfl, rfl, rfl, rfl⟩) (IntsAt.nil _ _ _) (ActsAt.nil _ _) h.ch ?_))); simp [qj, atP, *]
   refine ysr <| yp 4 [] (.l (h.c 0 0) .z) <| yw [44] (rE p.state 1) (fun m => ?_) fun m => ?_
   ·refine yz 8 <| yc (rE c 80) (fun o => ?_) fun o => ?_
    ·refine ysr <| yo (yQ (h.look (qN 6 _)) fun u h => ?_); refine yo (zs h 1 fun u h => ?_); refine yz 3 <| q8 (rB (rS (qcm (.a (h.cs 1 0 9) .z) (atP 6) [] none 0 0 none 0 0 (.inl ⟨rfl, rfl, rfl, rfl⟩) (IntsAt.nil _ _ _) (ActsAt.nil _ _) h.ch ?_))); simp [qj, atP, *]
    refine qk (nB (nS ?_)); refine ys <| zDC [5] [0] h fun u h => ydF (uL 1 4) [] h.on (fun u h => (.l (h.c 0 5) .z)) <| qc7 0 5 (by kernel_rfl) (by decide) ?_ ?_
    ·refine qi 0 _ (by kernel_rfl) rfl (yQ (h.look (qN 0 _)) fun u h => ?_); refine zH h <| qc7 5 6 (by kernel_rfl) (by decide) ?_ ?_
     ·refine qa9 5 _ (by kernel_rfl) rfl (zB [iX 2, rX 0, uX c, .string p.marks, nX, oX] 90 1 h fun u r h => ?_); refine zK (is := [0]) h <| yH 6 (zs h 1 fun u h => ?_); refine zHs h <| ydF [7] [] h.on (fun u h => .z) <| yDe (nS ?_); refine q8 (qcm (.a (h.cs 1 0 9) .z) (atP 0) [Ac.mk 2 0 c p.marks [] ByteArray.empty] none 0 0 (some r) 1 1 (.inr (fun b h => by cases h)) (IntsAt.nil _ _ _) (ActsAt.one (h.b 2) (h.newb 2) ⟨none, 0, 0, rfl, IntsAt.nil _ _ _⟩) h.ch ?_); simp [qj, atP, *]
     refine qi 6 _ (by kernel_rfl) rfl (zs h 1 fun u h => ?_); refine zHs h <| yK 5 (zB [iX 2, rX 0, uX c, .string p.marks, nX, oX] 90 1 h fun u s h => ?_); refine q9 <| yd [7] [] .z <| yDe (nS ?_); refine q8 (qcm (.a (h.cs 1 0 9) .z) (atP 0) [Ac.mk 2 0 c p.marks [] ByteArray.empty] none 0 0 (some s) 1 1 (.inr (fun b h => by cases h)) (IntsAt.nil _ _ _) (ActsAt.one (h.b 2) (h.newb 2) ⟨none, 0, 0, rfl, IntsAt.nil _ _ _⟩) h.ch ?_); simp [qj, atP, *]
    refine qa9 5 _ (by kernel_rfl) rfl (zB [iX 2, rX 0, uX c, .string p.marks, nX, oX] 90 1 h fun u t h => ?_); refine zK (is := [0]) h <| yH 0 (yQ (h.look (qN 0 _)) fun u h => ?_); refine zH h <| yH 6 (zs h 1 fun u h => ?_); refine zHs h <| ydF [7] [] h.on (fun u h => .z) <| yDe (nS ?_); refine q8 (qcm (.a (h.cs 1 0 9) .z) (atP 0) [Ac.mk 2 0 c p.marks [] ByteArray.empty] none 0 0 (some t) 1 1 (.inr (fun b h => by cases h)) (IntsAt.nil _ _ _) (ActsAt.one (h.b 2) (h.newb 2) ⟨none, 0, 0, rfl, IntsAt.nil _ _ _⟩) h.ch ?_); simp [qj, atP, *]
   exfalso; omega
  exfalso; omega
 refine yz 8 <| ycf <| ysr <| yp 4 [] (.l (h.c 0 0) .z) <| yw [35] (rE p.state 1) (fun f => ?_) fun f => ?_
 ·exfalso; omega
 refine yz 8 <| ycf <| ysr <| yp 4 [] (.l (h.c 0 0) .z) <| yw [44] (rE p.state 1) (fun g => ?_) fun g => ?_
 ·exfalso; omega
 refine yz 8 <| ycf <| qk (nB (nS ?_)); refine ys <| zDC [5] [0] h fun u h => ydF (uL 1 4) [] h.on (fun u h => (.l (h.c 0 5) .z)) <| qc7 0 5 (by kernel_rfl) (by decide) ?_ ?_
 ·refine qi 0 _ (by kernel_rfl) rfl (yQ (h.look (qN 0 _)) fun u h => ?_); refine zH h <| qc7 5 6 (by kernel_rfl) (by decide) ?_ ?_
  ·refine qa9 5 _ (by kernel_rfl) rfl (zB [iX 2, rX 0, uX c, .string p.marks, nX, oX] 90 1 h fun u v h => ?_); refine zK (is := [0]) h <| yH 6 (zs h 1 fun u h => ?_); refine zHs h <| ydF [7] [] h.on (fun u h => .z) <| yDe (nS ?_); refine q8 (qcm (.a (h.cs 1 0 9) .z) (atP 0) [Ac.mk 2 0 c p.marks [] ByteArray.empty] none 0 0 (some v) 1 1 (.inr (fun b h => by cases h)) (IntsAt.nil _ _ _) (ActsAt.one (h.b 2) (h.newb 2) ⟨none, 0, 0, rfl, IntsAt.nil _ _ _⟩) h.ch ?_); simp [qj, atP, *]
  refine qi 6 _ (by kernel_rfl) rfl (zs h 1 fun u h => ?_); refine zHs h <| yK 5 (zB [iX 2, rX 0, uX c, .string p.marks, nX, oX] 90 1 h fun u x h => ?_); refine q9 <| yd [7] [] .z <| yDe (nS ?_); refine q8 (qcm (.a (h.cs 1 0 9) .z) (atP 0) [Ac.mk 2 0 c p.marks [] ByteArray.empty] none 0 0 (some x) 1 1 (.inr (fun b h => by cases h)) (IntsAt.nil _ _ _) (ActsAt.one (h.b 2) (h.newb 2) ⟨none, 0, 0, rfl, IntsAt.nil _ _ _⟩) h.ch ?_); simp [qj, atP, *]
 refine qa9 5 _ (by kernel_rfl) rfl (zB [iX 2, rX 0, uX c, .string p.marks, nX, oX] 90 1 h fun u y h => ?_); refine zK (is := [0]) h <| yH 0 (yQ (h.look (qN 0 _)) fun u h => ?_); refine zH h <| yH 6 (zs h 1 fun u h => ?_); refine zHs h <| ydF [7] [] h.on (fun u h => .z) <| yDe (nS ?_); refine q8 (qcm (.a (h.cs 1 0 9) .z) (atP 0) [Ac.mk 2 0 c p.marks [] ByteArray.empty] none 0 0 (some y) 1 1 (.inr (fun b h => by cases h)) (IntsAt.nil _ _ _) (ActsAt.one (h.b 2) (h.newb 2) ⟨none, 0, 0, rfl, IntsAt.nil _ _ _⟩) h.ch ?_); simp [qj, atP, *]
theorem qf7 {w : World} {po : Option Nat} {pn pc : Nat} {p : PS} (hP : IntsAt w .i64 po pn pc p.params (fun b => po = some b)) (hn : pn ≤ 100) : Calls Tryz.prog 79 [.agg #[iX p.state, uX p.utf.b0, uX p.utf.b1, uX p.utf.b2, iX p.utf.n, .string p.marks, .slice (po.map at0) pn pc, .string p.text, iX p.within]].toArray w fun e w' => ∃ b n c, e = .returned (.slice (some ⟨b, 0, none⟩) n c) ∧ Own w' tInt 1 (some b) n c ((qah p.params).map (Value.int .i64)) ∧ w.heap.size ≤ b ∧ Ch (fun _ => False) w w' := by
 have C := hP.2.1; refine yA Tryz.func79 rfl <| ysr <| yo (yN [iX p.state, uX p.utf.b0, uX p.utf.b1, uX p.utf.b2, iX p.utf.n, .string p.marks, .slice (po.map at0) pn pc, .string p.text, iX p.within] 44 fun D r s E f j => ?_); have F := zn s (zm w); have a := zu (zm w) j iZ; have g := hP.ch j iZ; refine yz 2 <| ys <| ysr <| yp 4 [] (.l (f.c 6) .z) <| ye <| yc (rE ((pn : Nat) : Int) 0) (fun t => ?_) fun t => ?_
 ·refine ysr <| yo (yB [iX 0] 3 1 fun G k u H v x => ?_); have I := zn u a; have y := zu a x iZ; refine yz 2 <| q8 (rS (yR1 (.slice (some ⟨k, 0, none⟩) 1 1) ?_)); refine ⟨k, 1, 1, rfl, ?_, by omega, Up.ch y⟩; rw [show qah p.params = [0] from if_pos (by omega)]; exact Own.blk v rfl (by decide)
 refine yk <| ysr <| yp 2 [] (.l (f.c 6) .z) ?_; refine yo (qaV 3 1 8 none 0 0 [] (po.map at0) pn pc (p.params.map (Value.int .i64)) (some 10) pn (Nat.zero_add _) (p.params.map (Value.int .i64)) rfl (by kernel_rfl) (Own.nil _ _ _) g.1 (by rw [List.length_map, g.2.1, Nat.mul_one]) (qc8 _) (fun h => g.2.2.1 (by cases po <;> simp_all)) (by constructor <;> first | omega | (simp only [maxLen]; omega)) ?_); intro J d m o q K i; replace i := qea i; have A : ∀ b, d = some b → w.heap.size ≤ b := fun b e => by
  rcases q with h | ⟨g', h, h'⟩
  ·rw [h] at e; cases e
  rw [h] at e; have := zi e; have := zzs a; omega
 have B := zu a i iZ; have L : ¬ d = some r := fun e => by
  rcases q with h | ⟨g', h, h'⟩
  ·rw [h] at e; cases e
  rw [h] at e; have := zi e; have := f.lt; omega
 refine yz 4 <| q8 (yR1 (.slice (d.map at0) pn m) ?_); have M : 0 < pn := by omega
 cases d with
 | none => exact absurd (o.2.2.2.1 rfl).1 (by omega)
 | some b =>
  refine ⟨b, pn, m, rfl, ?_, A b rfl, Up.ch B⟩; rw [show qah p.params = p.params from if_neg (by omega)]; exact o
theorem qgS {w : World} {po : Option Nat} {pn pc : Nat} {p : PS} (hP : IntsAt w .i64 po pn pc p.params (fun b => po = some b)) (c : Int) (ht : p.text.size ≤ 1000) : Calls Tryz.prog 58 [.agg #[iX p.state, uX p.utf.b0, uX p.utf.b1, uX p.utf.b2, iX p.utf.n, .string p.marks, .slice (po.map at0) pn pc, .string p.text, iX p.within], uX c].toArray w fun e w' => Fed w w' e po (qz p c).1 (qz p c).2 := by
 refine yA Tryz.func58 rfl <| ysr <| yo (yN [iX p.state, uX p.utf.b0, uX p.utf.b1, uX p.utf.b2, iX p.utf.n, .string p.marks, .slice (po.map at0) pn pc, .string p.text, iX p.within] 44 fun aW g a0 aX y K => ?_); have C := zn a0 (zm w); have L := zu (zm w) K iZ; have a1 := hP.ch K iZ; refine yo (yN [iX 0, uX 0, uX 0, uX 0, iX 0, oX, nX, oX, iX 0] 44 fun M d a2 aY m D => ?_); have u := zn a2 L; have j := zu L D iZ; have v := a1.ch D iZ; have f := y.ch D id; refine yz 3 <| ys <| qa <| yx 3 <| yc (rE c 27) (fun o => ?_) fun o => ?_
 ·refine q7 <| yp 3 [] (.l (f.c 0) .z) <| yo (yT [iX p.state, uX p.utf.b0, uX p.utf.b1, uX p.utf.b2, iX p.utf.n, .string p.marks, .slice (po.map at0) pn pc, .string p.text, iX p.state] f fun aZ a3 E => ?_); have a4 := zu j E (fun i hi (h : i = g) => by omega); have a5 := v.ch E (fun b hb (e : b = g) => by have := (hP.2.2.2 b hb).2; have := C; omega); have a6 := m.ch E (fun (h : d = g) => by have := y.lt; omega); refine yq 5 <| yo (yT [iX 7, uX p.utf.b0, uX p.utf.b1, uX p.utf.b2, iX p.utf.n, .string p.marks, .slice (po.map at0) pn pc, .string p.text, iX p.state] a3 fun b3 a7 F => ?_); have a8 := zu a4 F (fun i hi (h : i = g) => by omega); have a9 := a5.ch F (fun b hb (e : b = g) => by have := (hP.2.2.2 b hb).2; have := C; omega); have aa := a6.ch F (fun (h : d = g) => by have := y.lt; omega); refine yE (nB (nS ?_)); refine ysr <| yp 1 [] (.a (a7.cs 0 9) .z) <| yo (yT [iX 7, uX p.utf.b0, uX p.utf.b1, uX p.utf.b2, iX p.utf.n, .string p.marks, .slice (po.map at0) pn pc, .string p.text, iX p.state] aa fun b4 ab N => ?_); have ac := zu a8 N (fun i hi (h : i = d) => by omega); have ad := a9.ch N (fun b hb (e : b = d) => by have := (hP.2.2.2 b hb).2; have := u; omega); refine yz 3 <| q8 (yR2 [.agg #[iX 7, uX p.utf.b0, uX p.utf.b1, uX p.utf.b2, iX p.utf.n, .string p.marks, .slice (po.map at0) pn pc, .string p.text, iX p.state], nX] (.a (ab.cs 0 9) .z) ?_); refine Fed.mk' (p' := (PS.mk 7 ⟨p.utf.b0, p.utf.b1, p.utf.b2, p.utf.n⟩ p.marks p.params p.text p.state)) (l := []) po pn pc none 0 0 (.inl ⟨rfl, rfl, rfl, rfl⟩) rfl (ad.old) (ActsAt.nil _ _) (Up.ch ac) ?_
  simp only [qz, atP, o, ↓reduceIte, Int.reduceEq, Int.reduceLE, Int.reduceLT, reduceCtorEq, sA, ne_eq]
 refine ysr <| yq 3 <| yw [16] (rE c 7) (fun r => ?_) fun r => ?_
 ·refine yp 8 [] (.l (f.c 0) .z) <| ye <| yc (rE p.state 5) (fun k => ?_) fun k => ?_
  ·refine ysr <| yp 1 [] (.a (f.cs 0 9) .z) <| yo (yC (qdO v 5 ) ?_); rintro _ O ⟨G, H, I, P, Q, R, rfl, ae, af, S⟩; refine ⟨_, rfl, ?_⟩; have b5 : g < M.heap.size := f.lt; have T : d < M.heap.size := m.lt; have ag := zu j S iZ; have ah := m.ch S id; have ai : O.heap.size ≤ O.heap.size := Nat.le_refl _; refine yq 4 <| yo (yT [iX (qm p 5).1.state, uX (qm p 5).1.utf.b0, uX (qm p 5).1.utf.b1, uX (qm p 5).1.utf.b2, iX (qm p 5).1.utf.n, .string (qm p 5).1.marks, .slice (G.map at0) H I, .string (qm p 5).1.text, iX (qm p 5).1.within] ah fun b6 aj A => ?_); have ak := zu ag A (fun i hi (h : i = d) => by omega); have al := ae.ch A (fun b hb (e : b = d) => hb.elim (fun hb => by have := (hP.2.2.2 b hb).2; have := u; omega) (fun hb => by have := T; omega)); have am := af.ch A (fun b hb (e : b = d) => by have := T; omega); have b7 := Nat.le_trans ai (zzs A); refine yz 6 <| q8 (rB (rS (yR2 [.agg #[iX (qm p 5).1.state, uX (qm p 5).1.utf.b0, uX (qm p 5).1.utf.b1, uX (qm p 5).1.utf.b2, iX (qm p 5).1.utf.n, .string (qm p 5).1.marks, .slice (G.map at0) H I, .string (qm p 5).1.text, iX (qm p 5).1.within], .slice (P.map at0) Q R] (.a (aj.cs 0 9) .z) ?_))); have b8 := zzs j; refine Fed.mk2 (p' := (qm p 5).1) (l := (qm p 5).2) G H I P Q R rfl (al.mono fun b hb => hb.imp id fun h => ⟨by omega, by omega⟩) (am.mono fun b h => ⟨⟨by omega, by omega⟩, h.2⟩) (Up.ch ak) ?_; simp only [qz, atP, o, r, k, ↓reduceIte, Int.reduceEq, Int.reduceLE, Int.reduceLT, reduceCtorEq, sA, ne_eq]
  refine ysr <| yq 3 <| yw [28] (rE c 24) (fun s => ?_) fun s => ?_
  ·exfalso; omega
  refine yz 7 <| yc (rE c 26) (fun t => ?_) fun t => ?_
  ·exfalso; omega
  refine ysr <| yq 3 <| yw [36] (rM 32 c) (fun x => ?_) fun x => ?_
  ·exfalso; omega
  refine yz 9 <| ycf <| qk (nB (nS ?_)); refine ysr <| yp 1 [] (.a (f.cs 0 9) .z) <| yo (yT [iX p.state, uX p.utf.b0, uX p.utf.b1, uX p.utf.b2, iX p.utf.n, .string p.marks, .slice (po.map at0) pn pc, .string p.text, iX p.within] m fun b9 an U => ?_); have ao := zu j U (fun i hi (h : i = d) => by omega); have ap := v.ch U (fun b hb (e : b = d) => by have := (hP.2.2.2 b hb).2; have := u; omega); refine yz 3 <| q8 (yR2 [.agg #[iX p.state, uX p.utf.b0, uX p.utf.b1, uX p.utf.b2, iX p.utf.n, .string p.marks, .slice (po.map at0) pn pc, .string p.text, iX p.within], nX] (.a (an.cs 0 9) .z) ?_); refine Fed.mk' (p' := (PS.mk p.state ⟨p.utf.b0, p.utf.b1, p.utf.b2, p.utf.n⟩ p.marks p.params p.text p.within)) (l := []) po pn pc none 0 0 (.inl ⟨rfl, rfl, rfl, rfl⟩) rfl (ap.old) (ActsAt.nil _ _) (Up.ch ao) ?_; simp only [qz, atP, o, r, k, s, t, x, ↓reduceIte, Int.reduceEq, Int.reduceLE, Int.reduceLT, reduceCtorEq, sA, ne_eq]
 refine yz 8 <| ycf <| ysr <| yq 3 <| yw [28] (rE c 24) (fun k => ?_) fun k => ?_
 ·refine yz 7 <| yct <| ysr <| yo (yQ (qN 0 _) fun ba V => ?_); have aq := zu j V iZ; have ar := m.ch V id; refine yo (yT [iX 0, uX 0, uX 0, uX 0, iX 0, oX, nX, oX, iX 0] ar fun bb au av => ?_); have aw := zu aq av (fun i hi (h : i = d) => by omega); refine yz 3 <| q8 (rB (rS (yR2 [.agg #[iX 0, uX 0, uX 0, uX 0, iX 0, oX, nX, oX, iX 0], nX] (.a (au.cs 0 9) .z) ?_))); refine Fed.mk' (p' := (PS.mk 0 ⟨0, 0, 0, 0⟩ ByteArray.empty [] ByteArray.empty 0)) (l := []) none 0 0 none 0 0 (.inl ⟨rfl, rfl, rfl, rfl⟩) rfl (IntsAt.nil _ _ _) (ActsAt.nil _ _) (Up.ch aw) ?_; simp only [qz, atP, o, r, k, ↓reduceIte, Int.reduceEq, Int.reduceLE, Int.reduceLT, reduceCtorEq, sA, ne_eq]
 refine yz 7 <| yc (rE c 26) (fun s => ?_) fun s => ?_
 ·refine ysr <| yo (yQ (qN 0 _) fun bc W => ?_); have ax := zu j W iZ; have ay := m.ch W id; refine yo (yT [iX 0, uX 0, uX 0, uX 0, iX 0, oX, nX, oX, iX 0] ay fun bd az aA => ?_); have aB := zu ax aA (fun i hi (h : i = d) => by omega); refine yz 3 <| q8 (rB (rS (yR2 [.agg #[iX 0, uX 0, uX 0, uX 0, iX 0, oX, nX, oX, iX 0], nX] (.a (az.cs 0 9) .z) ?_))); refine Fed.mk' (p' := (PS.mk 0 ⟨0, 0, 0, 0⟩ ByteArray.empty [] ByteArray.empty 0)) (l := []) none 0 0 none 0 0 (.inl ⟨rfl, rfl, rfl, rfl⟩) rfl (IntsAt.nil _ _ _) (ActsAt.nil _ _) (Up.ch aB) ?_; simp only [qz, atP, o, r, k, s, ↓reduceIte, Int.reduceEq, Int.reduceLE, Int.reduceLT, reduceCtorEq, sA, ne_eq]
 refine ysr <| yq 3 <| yw [36] (rM 32 c) (fun t => ?_) fun t => ?_
 ·refine yp 9 [] (.l (f.c 7) .z) <| ye <| yc (rL ((p.text).size : Int) 40) (fun x => ?_) fun x => ?_
  ·refine q7 <| yp 3 [] (.l (f.c 7) .z) <| yo (yB [uX c] 5 1 fun bf aC aD bg aE B => ?_); have bh := zn aD j; have aF := zu j B iZ; have aG := v.ch B iZ; have aH := f.ch B id; have aI := m.ch B id; refine yo (qco (some ⟨aC, 0, none⟩) 1 1 [c] (some 46) (by kernel_rfl) (Rd.all aE) rfl ?_); refine yp 7 [] (.p (q := (p.text).size + ((qD [c])).size ≤ 9223372036854775807) (by simp only [qam]; omega) .z) <| yo (yT [iX p.state, uX p.utf.b0, uX p.utf.b1, uX p.utf.b2, iX p.utf.n, .string p.marks, .slice (po.map at0) pn pc, .string (p.text ++ (qD [c])), iX p.within] aH fun bi aJ J => ?_); have aK := zu aF J (fun i hi (h : i = g) => by omega); have aL := aG.ch J (fun b hb (e : b = g) => by have := (hP.2.2.2 b hb).2; have := C; omega); have aM := aI.ch J (fun (h : d = g) => by have := y.lt; omega); refine yE (nB (nS ?_)); refine ysr <| yp 1 [] (.a (aJ.cs 0 9) .z) <| yo (yT [iX p.state, uX p.utf.b0, uX p.utf.b1, uX p.utf.b2, iX p.utf.n, .string p.marks, .slice (po.map at0) pn pc, .string (p.text ++ (qD [c])), iX p.within] aM fun bj aN X => ?_); have aO := zu aK X (fun i hi (h : i = d) => by omega); have aP := aL.ch X (fun b hb (e : b = d) => by have := (hP.2.2.2 b hb).2; have := u; omega); refine yz 3 <| q8 (yR2 [.agg #[iX p.state, uX p.utf.b0, uX p.utf.b1, uX p.utf.b2, iX p.utf.n, .string p.marks, .slice (po.map at0) pn pc, .string (p.text ++ (qD [c])), iX p.within], nX] (.a (aN.cs 0 9) .z) ?_); refine Fed.mk' (p' := (PS.mk p.state ⟨p.utf.b0, p.utf.b1, p.utf.b2, p.utf.n⟩ p.marks p.params (p.text ++ (qD [c])) p.within)) (l := []) po pn pc none 0 0 (.inl ⟨rfl, rfl, rfl, rfl⟩) rfl (aP.old) (ActsAt.nil _ _) (Up.ch aO) ?_
   simp only [qz, atP, o, r, k, s, t, x, ↓reduceIte, Int.reduceEq, Int.reduceLE, Int.reduceLT, reduceCtorEq, sA, ne_eq]
  refine qk (nB (nS ?_)); refine ysr <| yp 1 [] (.a (f.cs 0 9) .z) <| yo (yT [iX p.state, uX p.utf.b0, uX p.utf.b1, uX p.utf.b2, iX p.utf.n, .string p.marks, .slice (po.map at0) pn pc, .string p.text, iX p.within] m fun bk aQ Y => ?_); have aR := zu j Y (fun i hi (h : i = d) => by omega); have aS := v.ch Y (fun b hb (e : b = d) => by have := (hP.2.2.2 b hb).2; have := u; omega); refine yz 3 <| q8 (yR2 [.agg #[iX p.state, uX p.utf.b0, uX p.utf.b1, uX p.utf.b2, iX p.utf.n, .string p.marks, .slice (po.map at0) pn pc, .string p.text, iX p.within], nX] (.a (aQ.cs 0 9) .z) ?_); refine Fed.mk' (p' := (PS.mk p.state ⟨p.utf.b0, p.utf.b1, p.utf.b2, p.utf.n⟩ p.marks p.params p.text p.within)) (l := []) po pn pc none 0 0 (.inl ⟨rfl, rfl, rfl, rfl⟩) rfl (aS.old) (ActsAt.nil _ _) (Up.ch aR) ?_; simp only [qz, atP, o, r, k, s, t, x, ↓reduceIte, Int.reduceEq, Int.reduceLE, Int.reduceLT, reduceCtorEq, sA, ne_eq]
 refine yz 9 <| ycf <| qk (nB (nS ?_)); refine ysr <| yp 1 [] (.a (f.cs 0 9) .z) <| yo (yT [iX p.state, uX p.utf.b0, uX p.utf.b1, uX p.utf.b2, iX p.utf.n, .string p.marks, .slice (po.map at0) pn pc, .string p.text, iX p.within] m fun bl aT Z => ?_); have aU := zu j Z (fun i hi (h : i = d) => by omega); have aV := v.ch Z (fun b hb (e : b = d) => by have := (hP.2.2.2 b hb).2; have := u; omega); refine yz 3 <| q8 (yR2 [.agg #[iX p.state, uX p.utf.b0, uX p.utf.b1, uX p.utf.b2, iX p.utf.n, .string p.marks, .slice (po.map at0) pn pc, .string p.text, iX p.within], nX] (.a (aT.cs 0 9) .z) ?_); refine Fed.mk' (p' := (PS.mk p.state ⟨p.utf.b0, p.utf.b1, p.utf.b2, p.utf.n⟩ p.marks p.params p.text p.within)) (l := []) po pn pc none 0 0 (.inl ⟨rfl, rfl, rfl, rfl⟩) rfl (aV.old) (ActsAt.nil _ _) (Up.ch aU) ?_; simp only [qz, atP, o, r, k, s, t, ↓reduceIte, Int.reduceEq, Int.reduceLE, Int.reduceLT, reduceCtorEq, sA, ne_eq]
theorem qi9 {w : World} {po : Option Nat} {pn pc : Nat} {p : PS} (hP : IntsAt w .i64 po pn pc p.params (fun b => po = some b)) (c : Int) (hc8 : 0 ≤ c ∧ c ≤ 255) (ht : p.marks.size ≤ 1000) (hn : pn ≤ 8) (hpb : ∀ x ∈ p.params, 0 ≤ x ∧ x ≤ 9999) : Calls Tryz.prog 59 [.agg #[iX p.state, uX p.utf.b0, uX p.utf.b1, uX p.utf.b2, iX p.utf.n, .string p.marks, .slice (po.map at0) pn pc, .string p.text, iX p.within], uX c].toArray w fun e w' => Fed w w' e po (qaE p c).1 (qaE p c).2 := by
 have W := hP.2.1; have X := qgc hpb; have h := Sep.nil w; refine yA Tryz.func59 rfl <| ysr <| yo (zN [iX p.state, uX p.utf.b0, uX p.utf.b1, uX p.utf.b2, iX p.utf.n, .string p.marks, .slice (po.map at0) pn pc, .string p.text, iX p.within] 44 h fun u Y h => ?_); refine yo (zN [iX 0, uX 0, uX 0, uX 0, iX 0, oX, nX, oX, iX 0] 44 h fun u Z h => ?_); refine yz 3 <| ys <| qa <| ysr <| yq 3 <| yw [18] (rM 48 c) (fun A => ?_) fun A => ?_
 ·refine yz 7 <| yc (rM c 57) (fun s => ?_) fun s => ?_
  ·refine ysr <| yp 1 [] (.a (h.cs 0 0 9) .z) <| yo (yC (qf7 (hP.ch h.ch fun _ _ h => h.elim) (by omega)) ?_); rintro _ u ⟨B, d, C, rfl, v, D, E⟩; refine ⟨_, rfl, ?_⟩; have a0 : (qah p.params).length = d := by have := v.1; rw [List.length_map] at this; omega
   have a1 := qd9 p.params; have h := h.fresh v (fun g e => by cases e; exact D) E; refine yz 3 <| ysr <| yp 17 [12] (.q6 (((d : Nat) : Int) - 1) (.q6 (((d : Nat) : Int) - 1) (.i (((d : Nat) : Int) - 1) (d) (.l (o := (0 + ((((d : Nat) : Int) - 1)).toNat * 1)) (qi8 (h.own 2) (by omega)) (.q6 (10 * (qda (qah p.params))) (.p (q := InR .u8 (c - 48)) (in8 (by omega) (by omega)) (.q6 (c - 48) (.q6 ((10 * (qda (qah p.params))) + (c - 48)) (.i (((d : Nat) : Int) - 1) (d) .z))))))))) ?_; obtain ⟨a2, F, G⟩ := (h.own 2).2.2.2.2 _ rfl; refine yo (qY (0 + ((((d : Nat) : Int) - 1) : Int).toNat * 1) [iX (min (((10 * (qda (qah p.params))) + (c - 48)) : Int) 9999)] none (by kernel_rfl) G (by simp only [List.length_append, List.length_map, List.length_cons, List.length_nil]; omega) ?_); intro u H I; have J := qf6 (x := (min (((10 * (qda (qah p.params))) + (c - 48)) : Int) 9999)) (h.own 2) F (by omega) H; have h := h.push (i := 2) rfl J (.inl rfl) (I.mono fun _ _ e => e ▸ rfl); refine ye <| q7 <| yq 2 <| yo (zs h 0 fun u h => ?_); refine yE (nB (nS ?_)); refine ysr <| yp 1 [] (.a (h.cs 0 0 9) .z) <| yo (zs h 1 fun u h => ?_); refine yz 3 <| q8 (qcm (.a (h.cs 1 0 9) .z) { p with params := (qcw (qah p.params) (min (((10 * (qda (qah p.params))) + (c - 48)) : Int) 9999)) } [] (some B) d C none 0 0 (.inl ⟨rfl, rfl, rfl, rfl⟩) (h.nums 2).or (ActsAt.nil _ _) h.ch ?_); simp [qaE, atP, *]
  refine yx 3 <| yc (rE c 59) (fun t => ?_) fun t => ?_
  ·refine ysr <| yp 1 [] (.a (h.cs 0 0 9) .z) <| yo (yC (qf7 (hP.ch h.ch fun _ _ h => h.elim) (by omega)) ?_); rintro _ u ⟨K, f, L, rfl, y, M, N⟩; refine ⟨_, rfl, ?_⟩; have a3 : (qah p.params).length = f := by have := y.1; rw [List.length_map] at this; omega
   have a4 := qd9 p.params; have h := h.fresh y (fun g e => by cases e; exact M) N; refine yz 3 <| ys <| yx 3 <| yc (rL ((f : Nat) : Int) 8) (fun j => ?_) fun j => ?_
   ·refine q7 <| yq 1 <| yo (zB [iX 0] 3 1 h fun u a5 h => ?_); refine yo (zA 2 8 1 1 (f + 1) (((qah p.params) ++ [0]).map (Value.int .i64)) h (Rd.all (h.b 3)) rfl (hz := by rw [List.map_append]; rfl) fun u a6 O h P => ?_); obtain ⟨Q, rfl⟩ := P (by omega); refine yz 4 <| q7 <| yq 2 <| yo (zs h 0 fun u h => ?_); refine yE (nB (nS ?_)); refine ysr <| yp 1 [] (.a (h.cs 0 0 9) .z) <| yo (zs h 1 fun u h => ?_); refine yz 3 <| q8 (qcm (.a (h.cs 1 0 9) .z) { p with params := ((qah p.params) ++ [0]) } [] (some Q) (f + 1) O none 0 0 (.inl ⟨rfl, rfl, rfl, rfl⟩) (h.nums 2).or (ActsAt.nil _ _) h.ch ?_); simp [qaE, atP, *]
   refine yk <| q7 <| yq 2 <| yo (zs h 0 fun u h => ?_); refine yE (nB (nS ?_)); refine ysr <| yp 1 [] (.a (h.cs 0 0 9) .z) <| yo (zs h 1 fun u h => ?_); refine yz 3 <| q8 (qcm (.a (h.cs 1 0 9) .z) { p with params := (qah p.params) } [] (some K) f L none 0 0 (.inl ⟨rfl, rfl, rfl, rfl⟩) (h.nums 2).or (ActsAt.nil _ _) h.ch ?_); simp [qaE, atP, *]
  refine yx 3 <| yc (rM 64 c) (fun j => ?_) fun j => ?_
  ·refine ys <| ysr <| yp 3 [] (.l (h.c 0 0) .z) <| ye <| yc (rE p.state 4) (fun k => ?_) fun k => ?_
   ·refine ysr <| yo (yQ (h.look (qN 0 _)) fun u h => ?_); refine yo (zs h 1 fun u h => ?_); refine yz 3 <| q8 (rS (rB (rS (qcm (.a (h.cs 1 0 9) .z) (atP 0) [] none 0 0 none 0 0 (.inl ⟨rfl, rfl, rfl, rfl⟩) (IntsAt.nil _ _ _) (ActsAt.nil _ _) h.ch ?_)))); simp [qaE, atP, *]
   refine yk <| ys <| zDC [8] [0] h fun u h => ydF (uL 1 5) [] h.on (fun u h => (.l (h.c 0 5) (.l (h.c 0 6) .z))) <| yH 0 (yQ (h.look (qN 0 _)) fun u h => ?_); refine zH h ?_; refine yH 6 (zA0 3 1 8 h (hP.ch h.ch fun _ _ h => h.elim).1 (qc8 _) (by rw [List.length_map, hP.2.1, Nat.mul_one]) (fun h => hP.2.2.1 (by cases po <;> simp_all)) fun u m r h a7 => ?_); refine zHa h <| ydF [7] [] h.on (fun u h => .z) <| qc7 8 9 (by kernel_rfl) (by decide) ?_ ?_
   ·refine qa9 8 _ (by kernel_rfl) rfl (zB [iX 3, rX 0, uX c, .string p.marks, .slice (m.map at0) pn r, oX] 90 1 h fun u R h => ?_); refine zK (is := [0]) h <| yH 9 (zs h 1 fun u h => ?_); refine zHs h <| ydF [10] [] h.on (fun u h => .z) <| yDe (nS ?_); refine q8 (rB (rS (qcm (.a (h.cs 1 0 9) .z) (atP 0) [Ac.mk 3 0 c p.marks p.params ByteArray.empty] none 0 0 (some R) 1 1 (.inr (fun b h => by cases h)) (IntsAt.nil _ _ _) (ActsAt.one (h.b 3) (h.newb 3) ⟨m, pn, r, rfl, h.nums 2⟩) h.ch ?_))); simp [qaE, atP, *]
   refine qi 9 _ (by kernel_rfl) rfl (zs h 1 fun u h => ?_); refine zHs h <| yK 8 (zB [iX 3, rX 0, uX c, .string p.marks, .slice (m.map at0) pn r, oX] 90 1 h fun u S h => ?_); refine q9 <| yd [10] [] .z <| yDe (nS ?_); refine q8 (rB (rS (qcm (.a (h.cs 1 0 9) .z) (atP 0) [Ac.mk 3 0 c p.marks p.params ByteArray.empty] none 0 0 (some S) 1 1 (.inr (fun b h => by cases h)) (IntsAt.nil _ _ _) (ActsAt.one (h.b 3) (h.newb 3) ⟨m, pn, r, rfl, h.nums 2⟩) h.ch ?_))); simp [qaE, atP, *]
  refine ysr <| yp 5 [] (.l (h.c 0 5) .z) <| yw [77] (rE ((p.marks).size : Int) 2) (fun k => ?_) fun k => ?_
  ·refine yz 9 <| yct <| q7 <| yq 1 <| yo (zs h 0 fun u h => ?_); refine yE (nB (nS ?_)); refine ysr <| yp 1 [] (.a (h.cs 0 0 9) .z) <| yo (zs h 1 fun u h => ?_); refine yz 3 <| q8 (qcm (.a (h.cs 1 0 9) .z) { p with state := 4 } [] po pn pc none 0 0 (.inl ⟨rfl, rfl, rfl, rfl⟩) (hP.ch h.ch fun _ _ h => h.elim).old (ActsAt.nil _ _) h.ch ?_); simp [qaE, atP, *]
  refine yz 9 <| yc (rE c 58) (fun T => ?_) fun T => ?_
  ·refine q7 <| yq 1 <| yo (zs h 0 fun u h => ?_); refine yE (nB (nS ?_)); refine ysr <| yp 1 [] (.a (h.cs 0 0 9) .z) <| yo (zs h 1 fun u h => ?_); refine yz 3 <| q8 (qcm (.a (h.cs 1 0 9) .z) { p with state := 4 } [] po pn pc none 0 0 (.inl ⟨rfl, rfl, rfl, rfl⟩) (hP.ch h.ch fun _ _ h => h.elim).old (ActsAt.nil _ _) h.ch ?_); simp [qaE, atP, *]
  refine q7 <| yp 3 [] (.l (h.c 0 5) .z) <| yo (zB [uX c] 5 1 h fun u U h => ?_); refine yo (qco (some ⟨U, 0, none⟩) 1 1 [c] (some 12) (by kernel_rfl) (Rd.all (h.b 2)) rfl ?_); refine yp 7 [] (.p (q := (p.marks).size + ((qD [c])).size ≤ 9223372036854775807) (by simp only [qam]; omega) .z) <| yo (zs h 0 fun u h => ?_); refine yE (nB (nS ?_)); refine ysr <| yp 1 [] (.a (h.cs 0 0 9) .z) <| yo (zs h 1 fun u h => ?_); refine yz 3 <| q8 (qcm (.a (h.cs 1 0 9) .z) { p with marks := (p.marks ++ (qD [c])) } [] po pn pc none 0 0 (.inl ⟨rfl, rfl, rfl, rfl⟩) (hP.ch h.ch fun _ _ h => h.elim).old (ActsAt.nil _ _) h.ch ?_); simp [qaE, atP, *]
 refine yz 7 <| ycf <| yx 3 <| yc (rE c 59) (fun s => ?_) fun s => ?_
 ·exfalso; omega
 refine yx 3 <| yc (rM 64 c) (fun t => ?_) fun t => ?_
 ·exfalso; omega
 refine ysr <| yp 5 [] (.l (h.c 0 5) .z) <| yw [77] (rE ((p.marks).size : Int) 2) (fun j => ?_) fun j => ?_
 ·refine yz 9 <| yct <| q7 <| yq 1 <| yo (zs h 0 fun u h => ?_); refine yE (nB (nS ?_)); refine ysr <| yp 1 [] (.a (h.cs 0 0 9) .z) <| yo (zs h 1 fun u h => ?_); refine yz 3 <| q8 (qcm (.a (h.cs 1 0 9) .z) { p with state := 4 } [] po pn pc none 0 0 (.inl ⟨rfl, rfl, rfl, rfl⟩) (hP.ch h.ch fun _ _ h => h.elim).old (ActsAt.nil _ _) h.ch ?_); simp [qaE, atP, *]
 refine yz 9 <| yc (rE c 58) (fun k => ?_) fun k => ?_
 ·exfalso; omega
 refine q7 <| yp 3 [] (.l (h.c 0 5) .z) <| yo (zB [uX c] 5 1 h fun u V h => ?_); refine yo (qco (some ⟨V, 0, none⟩) 1 1 [c] (some 12) (by kernel_rfl) (Rd.all (h.b 2)) rfl ?_); refine yp 7 [] (.p (q := (p.marks).size + ((qD [c])).size ≤ 9223372036854775807) (by simp only [qam]; omega) .z) <| yo (zs h 0 fun u h => ?_); refine yE (nB (nS ?_)); refine ysr <| yp 1 [] (.a (h.cs 0 0 9) .z) <| yo (zs h 1 fun u h => ?_); refine yz 3 <| q8 (qcm (.a (h.cs 1 0 9) .z) { p with marks := (p.marks ++ (qD [c])) } [] po pn pc none 0 0 (.inl ⟨rfl, rfl, rfl, rfl⟩) (hP.ch h.ch fun _ _ h => h.elim).old (ActsAt.nil _ _) h.ch ?_); simp [qaE, atP, *]
def firstN (c : Nat) : Int :=
 if c < 128 then 240 else if c < 194 then 241 else if c < 224 then 2 else if c = 224 then 19 else if c < 237 then 3 else if c = 237 then 35 else if c < 240 then 3 else if c = 240 then 52 else if c < 244 then 4 else if c = 244 then 68 else 241
def accN (i : Nat) : Int × Int := if i = 0 then (128, 191) else if i = 1 then (160, 191) else if i = 2 then (128, 159) else if i = 3 then (144, 191) else if i = 4 then (128, 143) else (0, 0)
abbrev qdQ : Nat := 1
abbrev gAcc : Nat := 2
def qc9 (w : World) : Prop :=
 (∀ c, c < 256 → w.cell? ⟨qdQ, c, none⟩ = some (.int .u8 (firstN c))) ∧
 ∀ i, i < 16 → w.cell? ⟨gAcc, i * 2, none⟩ = some (.int .u8 (accN i).1) ∧ w.cell? ⟨gAcc, i * 2 + 1, none⟩ = some (.int .u8 (accN i).2)
theorem u_lt : qdQ < gTop ∧ gAcc < gTop := by decide
theorem qX {w w' : World} {B : Nat → Prop} (h : Ch B w w') (hT : qc9 w) (h0 : ¬ B qdQ) (h1 : ¬ B gAcc) : qc9 w' :=
 ⟨fun j hj => qF h (hT.1 j hj) h0, fun j hj => ⟨qF h (hT.2 j hj).1 h1, qF h (hT.2 j hj).2 h1⟩⟩
theorem qep {w : World} (h : qc9 w) : qdQ < w.heap.size ∧ gAcc < w.heap.size := ⟨cell_lt (h.1 0 (by decide)), cell_lt (h.2 0 (by decide)).1⟩
theorem qia {w : World} (h : qc9 w) (x : Int) (h0 : 0 ≤ x) (h1 : x ≤ 255) : w.cell? ⟨qdQ, 0 + x.toNat * 1, none⟩ = some (.int .u8 (firstN x.toNat)) := by
 rw [Nat.zero_add, Nat.mul_one]; exact h.1 _ (by omega)
theorem u_acc {w : World} (h : qc9 w) (x : Int) (h0 : 0 ≤ x) (h1 : x ≤ 15) : w.cell? ⟨gAcc, 0 + x.toNat * 2, none⟩ = some (.int .u8 (accN x.toNat).1) ∧ w.cell? ⟨gAcc, 0 + x.toNat * 2 + 1, none⟩ = some (.int .u8 (accN x.toNat).2) := by
 rw [Nat.zero_add]; exact h.2 _ (by omega)
theorem qb5 {w : World} {b off : Nat} {l : List Int} (h : Rd w (some ⟨b, off, none⟩) (l.map (Value.int .u8))) (k : Nat) (hk : k < l.length) : w.cell? ⟨b, off + k, none⟩ = some (.int .u8 (l.getD k 0)) := by
 refine qbe h k _ ?_
 rw [List.getElem?_map, List.getElem?_eq_getElem hk]
 simp [List.getD, List.getElem?_eq_getElem hk]
theorem qca {w : World} {b off : Nat} {l : List Int} (h : Rd w (some ⟨b, off, none⟩) (l.map (Value.int .u8))) (hk : 0 < l.length) : w.cell? ⟨b, off, none⟩ = some (.int .u8 (l.getD 0 0)) := qb5 h 0 hk
theorem qbO (op : BinOp) (a b : Int) : 0 ≤ qu op .u8 a b ∧ qu op .u8 a b ≤ 255 := by
 have key : ∀ n : Int, 0 ≤ IntKind.wrap .u8 n ∧ IntKind.wrap .u8 n ≤ 255 := fun n => by
  simp only [IntKind.wrap, IntKind.bits, IntKind.signed]
  constructor
  ·simp; omega
  ·simp; omega
 unfold qu
 cases op <;> exact key _
abbrev fsI (l : List Int) : Int := firstN (l.getD 0 0).toNat
abbrev szI (l : List Int) : Int := qu .and .u8 (fsI l) 7
abbrev rnI (l : List Int) : Int := Int.fdiv (fsI l) (2 ^ min (4 : Int).toNat (IntKind.bits .u8))
theorem first_bd : ∀ c, c < 256 → (0 ≤ firstN c ∧ firstN c ≤ 255) ∧ (0 ≤ Int.fdiv (firstN c) (2 ^ min (4 : Int).toNat (IntKind.bits .u8)) ∧ Int.fdiv (firstN c) (2 ^ min (4 : Int).toNat (IntKind.bits .u8)) ≤ 15) ∧ (0 ≤ qu .and .u8 (firstN c) 7 ∧ qu .and .u8 (firstN c) 7 ≤ 7) ∧ (firstN c < 240 → 2 ≤ qu .and .u8 (firstN c) 7 ∧ qu .and .u8 (firstN c) 7 ≤ 4) := by decide +kernel
theorem fs_bd {l : List Int} (h : ∀ x ∈ l, 0 ≤ x ∧ x ≤ 255) : (0 ≤ fsI l ∧ fsI l ≤ 255) ∧ (0 ≤ rnI l ∧ rnI l ≤ 15) ∧ (0 ≤ szI l ∧ szI l ≤ 7) ∧ (fsI l < 240 → 2 ≤ szI l ∧ szI l ≤ 4) :=
 first_bd _ (by have := qa0 h (by decide) 0; omega)
def qbY (l : List Int) : Bool :=
 if ((l.length : Nat) : Int) = 0 then false
 else if szI l ≤ ((l.length : Nat) : Int) then true
 else if 1 < ((l.length : Nat) : Int) ∧ (l.getD 1 0 < (accN (rnI l).toNat).1 ∨ (accN (rnI l).toNat).2 < l.getD 1 0) then true
 else if 2 < ((l.length : Nat) : Int) ∧ (l.getD 2 0 < 128 ∨ 191 < l.getD 2 0) then true
 else false
abbrev shI (a k : Int) : Int := IntKind.wrap .i32 (a * 2 ^ min k.toNat (IntKind.bits .i32))
abbrev andB (a b : Int) : Int := qu .and .u8 a b
abbrev orR (a b : Int) : Int := qu .or .i32 a b
abbrev maskI (l : List Int) : Int := Int.fdiv (shI (fsI l) 31) (2 ^ min (31 : Int).toNat (IntKind.bits .i32))
def qdR (l : List Int) : Int × Int :=
 if ((l.length : Nat) : Int) < 1 then (65533, 0)
 else if 240 ≤ fsI l then (orR (qu .andNot .i32 (l.getD 0 0) (maskI l)) (qu .and .i32 65533 (maskI l)), 1)
 else if ((l.length : Nat) : Int) < szI l then (65533, 1)
 else if l.getD 1 0 < (accN (rnI l).toNat).1 ∨ (accN (rnI l).toNat).2 < l.getD 1 0 then (65533, 1)
 else if szI l ≤ 2 then (orR (shI (andB (l.getD 0 0) 31) 6) (andB (l.getD 1 0) 63), 2)
 else if l.getD 2 0 < 128 ∨ 191 < l.getD 2 0 then (65533, 1)
 else if szI l ≤ 3 then (orR (orR (shI (andB (l.getD 0 0) 15) 12) (shI (andB (l.getD 1 0) 63) 6)) (andB (l.getD 2 0) 63), 3)
 else if l.getD 3 0 < 128 ∨ 191 < l.getD 3 0 then (65533, 1)
 else (orR (orR (orR (shI (andB (l.getD 0 0) 7) 18) (shI (andB (l.getD 1 0) 63) 12)) (shI (andB (l.getD 2 0) 63) 6)) (andB (l.getD 3 0) 63), 4)
def qeq (l : List Int) : Int × Int := if 0 < ((l.length : Nat) : Int) ∧ l.getD 0 0 < 128 then (l.getD 0 0, 1) else qdR l
theorem qib {l : List Int} (h : ∀ x ∈ l, 0 ≤ x ∧ x ≤ 255) (h0 : 0 < l.length) : 1 ≤ (qeq l).2 ∧ (qeq l).2 ≤ ((l.length : Nat) : Int) := by
 obtain ⟨_, _, _, h4⟩ := fs_bd h
 unfold qeq qdR
 repeat' split
 all_goals (try dsimp only)
 all_goals omega
def itU (l : List Int) : Nat → List Int × List Int
 | 0 => ([], l)
 | k + 1 => if 0 < (itU l k).2.length ∧ qbY (itU l k).2 = true then ((itU l k).1 ++ [(qeq (itU l k).2).1], (itU l k).2.drop (qeq (itU l k).2).2.toNat) else itU l k
theorem qf8 {l : List Int} {k : Nat} (h1 : 0 < (itU l k).2.length) (h2 : qbY (itU l k).2 = true) : itU l (k + 1) = ((itU l k).1 ++ [(qeq (itU l k).2).1], (itU l k).2.drop (qeq (itU l k).2).2.toNat) := if_pos ⟨h1, h2⟩
theorem qgd {l : List Int} {k : Nat} (h : ¬ (0 < (itU l k).2.length ∧ qbY (itU l k).2 = true)) (j : Nat) : itU l (k + j) = itU l k := by
 induction j with
 | zero => rfl
 | succ j ih =>
  show (if 0 < (itU l (k + j)).2.length ∧ qbY (itU l (k + j)).2 = true then _ else itU l (k + j)) = itU l k
  rw [ih, if_neg h]
theorem qdb {l : List Int} (h : ∀ x ∈ l, 0 ≤ x ∧ x ≤ 255) (k : Nat) : ∀ x ∈ (itU l k).2, 0 ≤ x ∧ x ≤ 255 := by
 induction k with
 | zero => exact h
 | succ k ih =>
  unfold itU
  split
  ·exact fun x hx => ih x (List.mem_of_mem_drop hx)
  ·exact ih
theorem itU_len {l : List Int} (h : ∀ x ∈ l, 0 ≤ x ∧ x ≤ 255) (k : Nat) : (itU l k).1.length ≤ k ∧ (itU l k).2.length + (itU l k).1.length ≤ l.length := by
 induction k with
 | zero => simp [itU]
 | succ k ih =>
  unfold itU
  split
  ·rename_i hc
   have := qib (qdb h k) hc.1
   simp only [List.length_append, List.length_cons, List.length_nil, List.length_drop]
   omega
  ·omega
theorem qic {w : World} {b off cap n : Nat} {ys : List Value} (h : Rd w (some ⟨b, off, none⟩) ys) (hl : ys.length ≤ cap) : Rd w (some ⟨b, if cap = n then off else off + n * 1, none⟩) (ys.drop n) := by
 by_cases e : cap = n
 ·rw [show ys.drop n = [] from List.drop_eq_nil_of_le (by omega)]; exact Rd.nil _ _
 ·rw [if_neg e, Nat.mul_one]
  refine ⟨(fun e => by cases e), fun ad e j u hj => ?_⟩
  obtain rfl := Option.some.inj e
  have := h.2 _ rfl (n + j) u (by rw [← hj, List.getElem?_drop])
  rw [qb1] at this ⊢
  rw [show off + n + j = off + (n + j) by omega]
  exact this
def US.pend (u : US) : List Int := [u.b0, u.b1, u.b2].take u.n.toNat
def mkU (l : List Int) : US := ⟨l.getD 0 0, l.getD 1 0, l.getD 2 0, ((l.length : Nat) : Int)⟩
def u0 : US := ⟨0, 0, 0, 0⟩
def qbC (u : US) (c : Int) : US × List Int := (mkU ((itU (u.pend ++ [c]) 4).2.take 3), (itU (u.pend ++ [c]) 4).1)
structure US.ok (u : US) : Prop where
 n : 0 ≤ u.n ∧ u.n ≤ 3
 b0 : 0 ≤ u.b0 ∧ u.b0 ≤ 255
 b1 : 0 ≤ u.b1 ∧ u.b1 ≤ 255
 b2 : 0 ≤ u.b2 ∧ u.b2 ≤ 255
theorem US.ok.pend {u : US} (h : u.ok) : ∀ x ∈ u.pend, 0 ≤ x ∧ x ≤ 255 := fun x hx => by
 have := List.mem_of_mem_take hx
 simp only [List.mem_cons, List.not_mem_nil, or_false] at this
 rcases this with rfl | rfl | rfl
 ·exact h.b0
 ·exact h.b1
 ·exact h.b2
theorem US.ok.len {u : US} (h : u.ok) : u.pend.length = u.n.toNat := by
 have := h.n
 simp [US.pend]; omega
theorem US.ok.rd {u : US} (h : u.ok) {w : World} {b : Nat} {T : TypeId} (hb : Blk w b [.int .u8 u.b0, .int .u8 u.b1, .int .u8 u.b2, .int .i64 u.n] T) : Rd w (some ⟨b, 0, none⟩) (u.pend.map (Value.int .u8)) := by
 have h1 := h.n
 refine Rd.blk hb fun j hj => ?_
 rw [List.length_map, h.len] at hj
 rw [List.getElem?_map, Nat.zero_add, US.pend, List.getElem?_take, if_pos hj]
 have : j = 0 ∨ j = 1 ∨ j = 2 := by omega
 rcases this with rfl | rfl | rfl <;> rfl
theorem qf9 {w : World} {b : Nat} {T : TypeId} {l : List Int} {n : Int} (h3 : l.length ≤ 3) (hn : n = ((l.length : Nat) : Int)) (hb : Blk w b (put [.int .u8 0, .int .u8 0, .int .u8 0, .int .i64 0] 0 (l.map (Value.int .u8))) T) :
  Blk w b [.int .u8 (mkU l).b0, .int .u8 (mkU l).b1, .int .u8 (mkU l).b2, .int .i64 0] T := by
 match l, h3 with
 | [], _ => exact hb
 | [_], _ => exact hb
 | [_, _], _ => exact hb
 | [_, _, _], _ => exact hb
theorem mkU_ok {l : List Int} (h : ∀ x ∈ l, 0 ≤ x ∧ x ≤ 255) (h3 : l.length ≤ 3) : (mkU l).ok :=
 ⟨⟨by simp [mkU], by simp [mkU]; omega⟩, qa0 h (by decide) 0, qa0 h (by decide) 1, qa0 h (by decide) 2⟩
theorem qfa {w : World} (b off cap : Nat) (l : List Int) (hU : qc9 w) (hr : Rd w (some ⟨b, off, none⟩) (l.map (Value.int .u8))) (hb : b < w.heap.size) (hB : ∀ x ∈ l, 0 ≤ x ∧ x ≤ 255) (hn : l.length ≤ 1000) : Calls Tryz.prog 90 [.slice (some ⟨b, off, none⟩) l.length cap].toArray w fun e w' => e = .returned (.bool (qbY l)) ∧ Ch (fun _ => False) w w' := by
 have R := qa0 hB (by decide) 0; have S := qa0 hB (by decide) 1; have T := qa0 hB (by decide) 2; have U := qa0 hB (by decide) 3; obtain ⟨⟨D, E⟩, ⟨F, G⟩, ⟨H, I⟩, J⟩ := fs_bd hB; unfold fsI at D E; unfold rnI fsI at F G; unfold szI fsI at H I; unfold fsI szI fsI at J; refine yA Tryz.func90 rfl <| yx 1 <| yx 3 <| ys <| yx 2 <| yc (rE ((l.length : Nat) : Int) 0) (fun a => ?_) fun a => ?_
 ·refine yx 1 <| q8 (rS (yR1 (.bool false) ?_)); refine ⟨zc ?_, Up.ch (zm w)⟩; simp only [qbY, a, ↓reduceIte, true_or, or_true, and_true, true_and, and_false, false_and, or_false, false_or]
 refine yk <| ysr <| yp 6 [] (.i 0 (l.length) (.l (v := uX (l.getD 0 0)) (o := off) (qca hr (by omega)) (.i (l.getD 0 0) (256) (.l (o := (0 + ((l.getD 0 0)).toNat * 1)) (qia hU ((l.getD 0 0)) (by omega) (by omega)) .z)))) <| ye <| ys <| ysr <| yp 5 [] (.q6 (qu .and .u8 (firstN ((l.getD 0 0) : Int).toNat) 7) .z) <| ye <| yc (rM (qu .and .u8 (firstN ((l.getD 0 0) : Int).toNat) 7) ((l.length : Nat) : Int)) (fun f => ?_) fun f => ?_
 ·refine yx 1 <| q8 (rS (yR1 (.bool true) ?_)); refine ⟨zc ?_, Up.ch (zm w)⟩; simp only [qbY, a, f, ↓reduceIte, true_or, or_true, and_true, true_and, and_false, false_and, or_false, false_or]
 refine yk <| ysr <| yp 4 [] (.p (q := 0 ≤ (4 : Int)) (by omega) (.i (Int.fdiv (firstN ((l.getD 0 0) : Int).toNat) (2 ^ min (4 : Int).toNat (IntKind.bits .u8))) (16) (.m (u_acc hU ((Int.fdiv (firstN ((l.getD 0 0) : Int).toNat) (2 ^ min (4 : Int).toNat (IntKind.bits .u8)))) (by omega) (by omega)).1 (.m (u_acc hU ((Int.fdiv (firstN ((l.getD 0 0) : Int).toNat) (2 ^ min (4 : Int).toNat (IntKind.bits .u8)))) (by omega) (by omega)).2 (.e .z))))) <| yo (yN [uX 0, uX 0] 154 fun V y K W L A => ?_); have X := zn K (zm w); have M := zu (zm w) A iZ; have N := Ch.rd A hr id; refine yo (yT [uX (accN ((Int.fdiv (firstN ((l.getD 0 0) : Int).toNat) (2 ^ min (4 : Int).toNat (IntKind.bits .u8))) : Int).toNat).1, uX (accN ((Int.fdiv (firstN ((l.getD 0 0) : Int).toNat) (2 ^ min (4 : Int).toNat (IntKind.bits .u8))) : Int).toNat).2] L fun Y O B => ?_); have P := zu M B (fun i hi (h : i = y) => by omega); have Q := Ch.rd B N (fun (h : b = y) => by have := (Nat.lt_of_lt_of_le hb (zzs (zm w))); omega); refine ye <| ys <| ys <| yD [] fun Z a0 t => ?_; have j := zu P t iZ; have r := Ch.rd t Q id; have C := O.ch t id; refine yd (uL 0 3) [] .z <| yv [26] (rL 1 ((l.length : Nat) : Int)) (fun g => ?_) fun g => ?_
 ·refine yd (uL 3 7) [] (.i 1 (l.length) (.l (v := uX (l.getD 1 0)) (o := (off + 1)) (qb5 r 1 (by omega)) (.l (C.c 0) .z))) <| yv [33] (rL (l.getD 1 0) (accN ((Int.fdiv (firstN ((l.getD 0 0) : Int).toNat) (2 ^ min (4 : Int).toNat (IntKind.bits .u8))) : Int).toNat).1) (fun d => ?_) fun d => ?_
  ·refine yd (uL 10 8) [] .z <| yDe (nS ?_); refine yct <| yx 1 <| q8 (rS (yR1 (.bool true) ?_)); refine ⟨zc ?_, Up.ch j⟩; simp only [qbY, a, f, g, d, ↓reduceIte, true_or, or_true, and_true, true_and, and_false, false_and, or_false, false_or]
  refine yd (uL 10 8) [] (.l (C.c 1) (.i 1 (l.length) (.l (v := uX (l.getD 1 0)) (o := (off + 1)) (qb5 r 1 (by omega)) .z))) <| yDe (nS ?_); refine yc (rL (accN ((Int.fdiv (firstN ((l.getD 0 0) : Int).toNat) (2 ^ min (4 : Int).toNat (IntKind.bits .u8))) : Int).toNat).2 (l.getD 1 0)) (fun k => ?_) fun k => ?_
  ·refine yx 1 <| q8 (rS (yR1 (.bool true) ?_)); refine ⟨zc ?_, Up.ch j⟩; simp only [qbY, a, f, g, d, k, ↓reduceIte, true_or, or_true, and_true, true_and, and_false, false_and, or_false, false_or]
  refine ysr <| yq 3 <| yw [44] (rL 2 ((l.length : Nat) : Int)) (fun n => ?_) fun n => ?_
  ·refine yp 8 [] (.i 2 (l.length) (.l (v := uX (l.getD 2 0)) (o := (off + 2)) (qb5 r 2 (by omega)) .z)) <| yw [49] (rL (l.getD 2 0) 128) (fun s => ?_) fun s => ?_
   ·refine yz 14 <| yct <| yx 1 <| q8 (rS (yR1 (.bool true) ?_)); refine ⟨zc ?_, Up.ch j⟩; simp only [qbY, a, f, g, d, k, n, s, ↓reduceIte, true_or, or_true, and_true, true_and, and_false, false_and, or_false, false_or]
   refine yp 14 [] (.i 2 (l.length) (.l (v := uX (l.getD 2 0)) (o := (off + 2)) (qb5 r 2 (by omega)) .z)) <| ye <| yc (rL 191 (l.getD 2 0)) (fun u => ?_) fun u => ?_
   ·refine yx 1 <| q8 (rS (yR1 (.bool true) ?_)); refine ⟨zc ?_, Up.ch j⟩; simp only [qbY, a, f, g, d, k, n, s, u, ↓reduceIte, true_or, or_true, and_true, true_and, and_false, false_and, or_false, false_or]
   refine yk <| yx 1 <| q8 (yR1 (.bool false) ?_); refine ⟨zc ?_, Up.ch j⟩; simp only [qbY, a, f, g, d, k, n, s, u, ↓reduceIte, true_or, or_true, and_true, true_and, and_false, false_and, or_false, false_or]
  refine yz 14 <| ycf <| yk <| yx 1 <| q8 (yR1 (.bool false) ?_); refine ⟨zc ?_, Up.ch j⟩; simp only [qbY, a, f, g, d, k, n, ↓reduceIte, true_or, or_true, and_true, true_and, and_false, false_and, or_false, false_or]
 refine yd (uL 3 15) [] .z <| yDe (nS ?_); refine ycf <| ysr <| yq 3 <| yw [44] (rL 2 ((l.length : Nat) : Int)) (fun d => ?_) fun d => ?_
 ·exfalso; omega
 refine yz 14 <| ycf <| yk <| yx 1 <| q8 (yR1 (.bool false) ?_); refine ⟨zc ?_, Up.ch j⟩; simp only [qbY, a, f, g, d, ↓reduceIte, true_or, or_true, and_true, true_and, and_false, false_and, or_false, false_or]
theorem qdc {w : World} (b off cap : Nat) (l : List Int) (hU : qc9 w) (hr : Rd w (some ⟨b, off, none⟩) (l.map (Value.int .u8))) (hb : b < w.heap.size) (hB : ∀ x ∈ l, 0 ≤ x ∧ x ≤ 255) (hn : l.length ≤ 1000) : Calls Tryz.prog 105 [.slice (some ⟨b, off, none⟩) l.length cap].toArray w fun e w' => e = .returned (.tuple #[rX (qdR l).1, iX (qdR l).2]) ∧ Ch (fun _ => False) w w' := by
 have Q := qa0 hB (by decide) 0; have R := qa0 hB (by decide) 1; have S := qa0 hB (by decide) 2; have T := qa0 hB (by decide) 3; obtain ⟨⟨F, G⟩, ⟨H, I⟩, ⟨J, K⟩, L⟩ := fs_bd hB; unfold fsI at F G; unfold rnI fsI at H I; unfold szI fsI at J K; unfold fsI szI fsI at L; have U := qbO .and (l.getD 0 0) 31; have V := qbO .and (l.getD 1 0) 63; have W := qbO .and (l.getD 0 0) 15; have X := qbO .and (l.getD 2 0) 63; have Y := qbO .and (l.getD 0 0) 7; have Z := qbO .and (l.getD 3 0) 63; refine yA Tryz.func105 rfl <| yx 2 <| yx 3 <| ys <| yx 2 <| yc (rL ((l.length : Nat) : Int) 1) (fun a => ?_) fun a => ?_
 ·refine yx 2 <| q8 (rS (yR2 [rX 65533, iX 0] .z ?_)); refine ⟨?_, Up.ch (zm w)⟩; simp only [qdR, a, ↓reduceIte, true_or, or_true, and_true, true_and, and_false, false_and, or_false, false_or]
 refine yk <| ysr <| yp 4 [] (.i 0 (l.length) (.l (v := uX (l.getD 0 0)) (o := off) (qca hr (by omega)) .z)) <| ye <| ysr <| yp 4 [] (.i (l.getD 0 0) (256) (.l (o := (0 + ((l.getD 0 0)).toNat * 1)) (qia hU ((l.getD 0 0)) (by omega) (by omega)) .z)) <| ye <| ys <| yx 2 <| yc (rM 240 (firstN ((l.getD 0 0) : Int).toNat)) (fun d => ?_) fun d => ?_
 ·refine ysr <| yp 5 [] (.q3 (firstN ((l.getD 0 0) : Int).toNat) (.p (q := 0 ≤ (31 : Int)) (by omega) (.p (q := 0 ≤ (31 : Int)) (by omega) .z))) <| ye <| ysr <| yp 11 [] (.i 0 (l.length) (.l (v := uX (l.getD 0 0)) (o := off) (qca hr (by omega)) (.q3 (l.getD 0 0) .z))) <| ye <| q8 (rS (yR2 [rX (qu .or .i32 (qu .andNot .i32 (l.getD 0 0) (Int.fdiv (IntKind.wrap .i32 ((firstN ((l.getD 0 0) : Int).toNat) * 2 ^ min (31 : Int).toNat (IntKind.bits .i32))) (2 ^ min (31 : Int).toNat (IntKind.bits .i32)))) (qu .and .i32 65533 (Int.fdiv (IntKind.wrap .i32 ((firstN ((l.getD 0 0) : Int).toNat) * 2 ^ min (31 : Int).toNat (IntKind.bits .i32))) (2 ^ min (31 : Int).toNat (IntKind.bits .i32))))), iX 1] .z ?_)); refine ⟨?_, Up.ch (zm w)⟩; simp only [qdR, a, d, ↓reduceIte, true_or, or_true, and_true, true_and, and_false, false_and, or_false, false_or]
 refine yk <| ysr <| yp 4 [] (.q6 (qu .and .u8 (firstN ((l.getD 0 0) : Int).toNat) 7) .z) <| ye <| ysr <| yp 4 [] (.p (q := 0 ≤ (4 : Int)) (by omega) (.i (Int.fdiv (firstN ((l.getD 0 0) : Int).toNat) (2 ^ min (4 : Int).toNat (IntKind.bits .u8))) (16) (.m (u_acc hU ((Int.fdiv (firstN ((l.getD 0 0) : Int).toNat) (2 ^ min (4 : Int).toNat (IntKind.bits .u8)))) (by omega) (by omega)).1 (.m (u_acc hU ((Int.fdiv (firstN ((l.getD 0 0) : Int).toNat) (2 ^ min (4 : Int).toNat (IntKind.bits .u8)))) (by omega) (by omega)).2 (.e .z))))) <| yo (yN [uX 0, uX 0] 154 fun a0 B M a1 N C => ?_); have a2 := zn M (zm w); have O := zu (zm w) C iZ; have P := Ch.rd C hr id; refine yo (yT [uX (accN ((Int.fdiv (firstN ((l.getD 0 0) : Int).toNat) (2 ^ min (4 : Int).toNat (IntKind.bits .u8))) : Int).toNat).1, uX (accN ((Int.fdiv (firstN ((l.getD 0 0) : Int).toNat) (2 ^ min (4 : Int).toNat (IntKind.bits .u8))) : Int).toNat).2] N fun a3 D E => ?_); have g := zu O E (fun i hi (h : i = B) => by omega); have y := Ch.rd E P (fun (h : b = B) => by have := (Nat.lt_of_lt_of_le hb (zzs (zm w))); omega); refine ye <| ys <| yx 3 <| yc (rL ((l.length : Nat) : Int) (qu .and .u8 (firstN ((l.getD 0 0) : Int).toNat) 7)) (fun f => ?_) fun f => ?_
 ·refine yx 2 <| q8 (rS (yR2 [rX 65533, iX 1] .z ?_)); refine ⟨?_, Up.ch g⟩; simp only [qdR, a, d, f, ↓reduceIte, true_or, or_true, and_true, true_and, and_false, false_and, or_false, false_or]
 refine yk <| ysr <| yp 4 [] (.i 1 (l.length) (.l (v := uX (l.getD 1 0)) (o := (off + 1)) (qb5 y 1 (by omega)) .z)) <| ye <| ys <| ysr <| yp 5 [] (.l (D.c 0) .z) <| yw [55] (rL (l.getD 1 0) (accN ((Int.fdiv (firstN ((l.getD 0 0) : Int).toNat) (2 ^ min (4 : Int).toNat (IntKind.bits .u8))) : Int).toNat).1) (fun j => ?_) fun j => ?_
 ·refine yz 10 <| yct <| yx 2 <| q8 (rS (yR2 [rX 65533, iX 1] .z ?_)); refine ⟨?_, Up.ch g⟩; simp only [qdR, a, d, f, j, ↓reduceIte, true_or, or_true, and_true, true_and, and_false, false_and, or_false, false_or]
 refine yp 10 [] (.l (D.c 1) .z) <| ye <| yc (rL (accN ((Int.fdiv (firstN ((l.getD 0 0) : Int).toNat) (2 ^ min (4 : Int).toNat (IntKind.bits .u8))) : Int).toNat).2 (l.getD 1 0)) (fun k => ?_) fun k => ?_
 ·refine yx 2 <| q8 (rS (yR2 [rX 65533, iX 1] .z ?_)); refine ⟨?_, Up.ch g⟩; simp only [qdR, a, d, f, j, k, ↓reduceIte, true_or, or_true, and_true, true_and, and_false, false_and, or_false, false_or]
 refine yk <| ys <| yx 2 <| yc (rM (qu .and .u8 (firstN ((l.getD 0 0) : Int).toNat) 7) 2) (fun n => ?_) fun n => ?_
 ·refine ysr <| yp 10 [] (.q3 (qu .and .u8 (l.getD 0 0) 31) (.p (q := 0 ≤ (6 : Int)) (by omega) (.q3 (qu .and .u8 (l.getD 1 0) 63) .z))) <| ye <| q8 (rS (yR2 [rX (qu .or .i32 (IntKind.wrap .i32 ((qu .and .u8 (l.getD 0 0) 31) * 2 ^ min (6 : Int).toNat (IntKind.bits .i32))) (qu .and .u8 (l.getD 1 0) 63)), iX 2] .z ?_)); refine ⟨?_, Up.ch g⟩; simp only [qdR, a, d, f, j, k, n, ↓reduceIte, true_or, or_true, and_true, true_and, and_false, false_and, or_false, false_or]
 refine yk <| ysr <| yp 4 [] (.i 2 (l.length) (.l (v := uX (l.getD 2 0)) (o := (off + 2)) (qb5 y 2 (by omega)) .z)) <| ye <| ys <| ysr <| yq 3 <| yw [76] (rL (l.getD 2 0) 128) (fun r => ?_) fun r => ?_
 ·refine yz 6 <| yct <| yx 2 <| q8 (rS (yR2 [rX 65533, iX 1] .z ?_)); refine ⟨?_, Up.ch g⟩; simp only [qdR, a, d, f, j, k, n, r, ↓reduceIte, true_or, or_true, and_true, true_and, and_false, false_and, or_false, false_or]
 refine yz 6 <| yc (rL 191 (l.getD 2 0)) (fun s => ?_) fun s => ?_
 ·refine yx 2 <| q8 (rS (yR2 [rX 65533, iX 1] .z ?_)); refine ⟨?_, Up.ch g⟩; simp only [qdR, a, d, f, j, k, n, r, s, ↓reduceIte, true_or, or_true, and_true, true_and, and_false, false_and, or_false, false_or]
 refine yk <| ys <| yx 2 <| yc (rM (qu .and .u8 (firstN ((l.getD 0 0) : Int).toNat) 7) 3) (fun t => ?_) fun t => ?_
 ·refine ysr <| yp 15 [] (.q3 (qu .and .u8 (l.getD 0 0) 15) (.p (q := 0 ≤ (12 : Int)) (by omega) (.q3 (qu .and .u8 (l.getD 1 0) 63) (.p (q := 0 ≤ (6 : Int)) (by omega) (.q3 (qu .and .u8 (l.getD 2 0) 63) .z))))) <| ye <| q8 (rS (yR2 [rX (qu .or .i32 (qu .or .i32 (IntKind.wrap .i32 ((qu .and .u8 (l.getD 0 0) 15) * 2 ^ min (12 : Int).toNat (IntKind.bits .i32))) (IntKind.wrap .i32 ((qu .and .u8 (l.getD 1 0) 63) * 2 ^ min (6 : Int).toNat (IntKind.bits .i32)))) (qu .and .u8 (l.getD 2 0) 63)), iX 3] .z ?_)); refine ⟨?_, Up.ch g⟩; simp only [qdR, a, d, f, j, k, n, r, s, t, ↓reduceIte, true_or, or_true, and_true, true_and, and_false, false_and, or_false, false_or]
 refine yk <| ysr <| yp 4 [] (.i 3 (l.length) (.l (v := uX (l.getD 3 0)) (o := (off + 3)) (qb5 y 3 (by omega)) .z)) <| ye <| ys <| ysr <| yq 3 <| yw [100] (rL (l.getD 3 0) 128) (fun u => ?_) fun u => ?_
 ·refine yz 6 <| yct <| yx 2 <| q8 (rS (yR2 [rX 65533, iX 1] .z ?_)); refine ⟨?_, Up.ch g⟩; simp only [qdR, a, d, f, j, k, n, r, s, t, u, ↓reduceIte, true_or, or_true, and_true, true_and, and_false, false_and, or_false, false_or]
 refine yz 6 <| yc (rL 191 (l.getD 3 0)) (fun A => ?_) fun A => ?_
 ·refine yx 2 <| q8 (rS (yR2 [rX 65533, iX 1] .z ?_)); refine ⟨?_, Up.ch g⟩; simp only [qdR, a, d, f, j, k, n, r, s, t, u, A, ↓reduceIte, true_or, or_true, and_true, true_and, and_false, false_and, or_false, false_or]
 refine yk <| ysr <| yp 20 [] (.q3 (qu .and .u8 (l.getD 0 0) 7) (.p (q := 0 ≤ (18 : Int)) (by omega) (.q3 (qu .and .u8 (l.getD 1 0) 63) (.p (q := 0 ≤ (12 : Int)) (by omega) (.q3 (qu .and .u8 (l.getD 2 0) 63) (.p (q := 0 ≤ (6 : Int)) (by omega) (.q3 (qu .and .u8 (l.getD 3 0) 63) .z))))))) <| ye <| q8 (yR2 [rX (qu .or .i32 (qu .or .i32 (qu .or .i32 (IntKind.wrap .i32 ((qu .and .u8 (l.getD 0 0) 7) * 2 ^ min (18 : Int).toNat (IntKind.bits .i32))) (IntKind.wrap .i32 ((qu .and .u8 (l.getD 1 0) 63) * 2 ^ min (12 : Int).toNat (IntKind.bits .i32)))) (IntKind.wrap .i32 ((qu .and .u8 (l.getD 2 0) 63) * 2 ^ min (6 : Int).toNat (IntKind.bits .i32)))) (qu .and .u8 (l.getD 3 0) 63)), iX 4] .z ?_); refine ⟨?_, Up.ch g⟩; simp only [qdR, a, d, f, j, k, n, r, s, t, u, A, ↓reduceIte, true_or, or_true, and_true, true_and, and_false, false_and, or_false, false_or]
theorem qfK {w : World} (b off cap : Nat) (l : List Int) (hU : qc9 w) (hr : Rd w (some ⟨b, off, none⟩) (l.map (Value.int .u8))) (hb : b < w.heap.size) (hB : ∀ x ∈ l, 0 ≤ x ∧ x ≤ 255) (hn : l.length ≤ 1000) : Calls Tryz.prog 91 [.slice (some ⟨b, off, none⟩) l.length cap].toArray w fun e w' => e = .returned (.tuple #[rX (qeq l).1, iX (qeq l).2]) ∧ Ch (fun _ => False) w w' := by
 have D := qa0 hB (by decide) 0; have E := qa0 hB (by decide) 1; have F := qa0 hB (by decide) 2; have G := qa0 hB (by decide) 3; obtain ⟨⟨j, m⟩, ⟨n, p⟩, ⟨q, r⟩, s⟩ := fs_bd hB; unfold fsI at j m; unfold rnI fsI at n p; unfold szI fsI at q r; unfold fsI szI fsI at s; refine yA Tryz.func91 rfl <| yx 2 <| ys <| yx 3 <| qa <| qa2 [0, 6, 7, 8] (f' := [(0, .slice (some ⟨b, off, none⟩) l.length cap), (6, .slice (some ⟨b, off, none⟩) l.length cap), (7, iX ((l.length : Nat) : Int)), (8, iX 0)]) <| qG (σ := Nat) (fun k => [(0, .slice (some ⟨b, off, none⟩) l.length cap), (6, .slice (some ⟨b, off, none⟩) l.length cap), (7, iX ((l.length : Nat) : Int)), (8, iX 0)]) (fun k u => Ch (fun _ => False) w u) (fun k => k) 0 rfl ?_ ?_
 ·exact Ch.refl _ _
 intro k H t I J; have d := t; have a := zu (zm w) d iZ; have h := qX d hU id id; have f := Ch.rd d hr id; refine yx 1 <| ys <| yc (rL 0 ((l.length : Nat) : Int)) (fun c => ?_) fun c => ?_
 ·refine yk <| ys <| qa <| ysr <| yp 3 [] (.i 0 (l.length) (.l (v := uX (l.getD 0 0)) (o := off) (qca f (by omega)) .z)) <| ye <| ys <| yx 2 <| yc (rL (l.getD 0 0) 128) (fun g => ?_) fun g => ?_
  ·refine ysr <| yp 4 [] (.q3 (l.getD 0 0) .z) <| ye <| q8 (rS (rB (rS (qcQ (rB (rS (yR2 [rX (l.getD 0 0), iX 1] .z ?_))))))); refine ⟨?_, Up.ch a⟩; simp only [qeq, c, g, ↓reduceIte, true_or, or_true, and_true, true_and, and_false, false_and, or_false, false_or]
  refine yk <| qv (eB (eS (qe (qb (nS ?_))))); refine ysr <| yq 1 <| yo (yQ (qdc b off cap l h f (Nat.lt_of_lt_of_le hb (zzs a)) hB hn) fun K y => ?_); have A := zu a y iZ; refine yz 7 <| q8 (yR2 [rX (qdR l).1, iX (qdR l).2] .z ?_); refine ⟨?_, Up.ch A⟩; simp only [qeq, c, g, ↓reduceIte, true_or, or_true, and_true, true_and, and_false, false_and, or_false, false_or]
 refine qv (eS (qe (qb (nS ?_)))); refine ysr <| yq 1 <| yo (yQ (qdc b off cap l h f (Nat.lt_of_lt_of_le hb (zzs a)) hB hn) fun L B => ?_); have C := zu a B iZ; refine yz 7 <| q8 (yR2 [rX (qdR l).1, iX (qdR l).2] .z ?_); refine ⟨?_, Up.ch C⟩; simp only [qeq, c, ↓reduceIte, true_or, or_true, and_true, true_and, and_false, false_and, or_false, false_or]
theorem qgT {N : Nat} {f : Fr} {w : World} {Q : Exit → Act → World → Prop} {id l : Nat} (h : ∀ a, Has N f a → Q (.goto l) a w) : ∀ a, Has N f a → Exit.inBlock id Q (.goto l) a w := h
theorem Own.ltOf {w : World} {e : TypeId} {sz n cap b : Nat} {o : Option Nat} {xs : List Value} (h : Own w e sz o n cap xs) (ho : o = some b) : b < w.heap.size := by subst ho; exact h.lt
def qaZ (l : List Ac) : List Value := (l.map fun a => a.vals (.slice none 0 0)).flatten
theorem qcx (l : List Ac) (a : Ac) : qaZ l ++ a.vals (.slice none 0 0) = qaZ (l ++ [a]) := by simp [qaZ]
theorem qcb (l : List Ac) : (qaZ l).length = l.length * 6 := by
 induction l with
 | nil => rfl
 | cons a l ih =>
  have : qaZ (a :: l) = a.vals (.slice none 0 0) ++ qaZ l := by simp [qaZ]
  rw [this, List.length_append, ih]
  simp [Ac.vals]; omega
theorem qaY {w : World} {o : Option Nat} {n c : Nat} {l : List Ac} {K : Nat → Prop} (h : Own w qi7 6 o n c (qaZ l)) (hp : ∀ a ∈ l, a.params = []) (hK : ∀ b, o = some b → K b) : ActsAt w o n c l K := by
 have hn := h.1
 rw [qcb] at hn
 refine ⟨⟨l.map fun a : Ac => a.vals (.slice none 0 0), h, by simp, fun i hi hi' => ?_⟩, by omega, hK⟩
 refine ⟨none, 0, 0, ?_, by rw [hp _ (List.getElem_mem hi)]; exact IntsAt.nil _ _ _⟩
 rw [List.getElem_map]; rfl
theorem take_acP (l : List Int) (k : Nat) (h : k < l.length) (al : List Ac) : (al ++ (l.take k).map acP) ++ [acP (l.getD k 0)] = al ++ (l.take (k + 1)).map acP := by
 rw [List.take_succ_eq_append_getElem h, List.map_append, List.append_assoc]
 simp [List.getD, List.getElem?_eq_getElem h]
theorem qfL {w : World} {b : Nat} {l : List Int} (h : Rd w (some ⟨b, 0, none⟩) (l.map (Value.int .i32))) (k : Nat) (hk : k < l.length) : w.cell? ⟨b, 0 + ((k : Nat) : Int).toNat * 1, none⟩ = some (.int .i32 (l.getD k 0)) := by
 rw [Int.toNat_natCast, Nat.mul_one]
 refine qbe h k _ ?_
 rw [List.getElem?_map, List.getElem?_eq_getElem hk]
 simp [List.getD, List.getElem?_eq_getElem hk]
def qac (u : US) : List Int := List.replicate u.n.toNat 65533
def qA (p : PS) (c : Int) : PS × List Ac :=
 if c < 128 then
  (if c = 27 then (atP 1, (qac p.utf).map acP)
  else if c < 32 ∨ c = 127 then ({ p with utf := u0 }, (qac p.utf).map acP ++ [acX c])
  else ({ p with utf := (qbC u0 c).1 }, (qac p.utf).map acP ++ (qbC u0 c).2.map acP))
 else ({ p with utf := (qbC p.utf c).1 }, (qbC p.utf c).2.map acP)
def qaa (p : PS) (c : Int) : PS × List Ac :=
 if p.state = 0 then qA p c
 else if 5 ≤ p.state then qz p c
 else if c = 24 ∨ c = 26 then (atP 0, [])
 else if c = 27 then (atP 1, [])
 else if c < 32 then (p, [acX c])
 else if 127 ≤ c then (p, [])
 else if p.state = 3 ∨ p.state = 4 then qaE p c
 else qj p c
def qaz (p : PS) (c : Int) : PS × List Ac :=
 if p.state = 7 then (if c = 92 then qm p p.within else qaa (atP 1) c) else qaa p c
structure PS.lim (p : PS) : Prop where
 u : p.utf.ok
 m : p.marks.size ≤ 2
 t : p.text.size ≤ 40
 n : p.params.length ≤ 8
 b : ∀ x ∈ p.params, 0 ≤ x ∧ x ≤ 9999
theorem zv {w : World} {e : TypeId} {sz n cap b : Nat} {o : Option Nat} {xs : List Value} (h : Own w e sz o n cap xs) (hb : b = w.heap.size := by assumption) : ∀ b', o = some b' → ¬ b' = b := fun b' e => by have := h.ltOf e; omega
theorem qid (d : US) (w : World) (hn : 0 ≤ d.n ∧ d.n ≤ 3) : Calls Tryz.prog 76 [.agg #[uX d.b0, uX d.b1, uX d.b2, iX d.n]].toArray w fun e w' => ∃ o n cc, e = .returned (.tuple #[.agg #[uX 0, uX 0, uX 0, iX 0], .slice (o.map at0) n cc]) ∧ Own w' qgR 1 o n cc ((qac d).map (Value.int .i32)) ∧ (∀ b, o = some b → w.heap.size ≤ b) ∧ Ch (fun _ => False) w w' := by
 refine yA Tryz.func76 rfl <| ysr <| yo (yN [uX d.b0, uX d.b1, uX d.b2, iX d.n] 41 fun a2 F G a3 H I => ?_); have a4 := zn G (zm w); have r := zu (zm w) I iZ; refine yo (yN [uX 0, uX 0, uX 0, iX 0] 41 fun f g J a5 s t => ?_); have a6 := zn J r; have v := zu r t iZ; have x := H.ch t id; refine yz 3 <| yx 1 <| ys <| ysr <| yp 3 [] (.l (x.c 3) .z) <| ye <| qa <| qa2 [2, 4, 6, 7] (f' := [(2, pX g), (4, nX), (6, iX d.n), (7, iX 0)]) <| qG (σ := Nat × Option Nat × Nat) (fun ⟨k, o, oc⟩ => [(2, pX g), (4, .slice (o.map at0) k oc), (6, iX d.n), (7, iX ((k : Nat) : Int))]) (fun ⟨k, o, oc⟩ u => k ≤ d.n.toNat ∧ Ch (fun _ => False) f u ∧ Own u qgR 1 o k oc ((List.replicate k 65533).map (Value.int .i32)) ∧ ∀ b, o = some b → f.heap.size ≤ b) (fun ⟨k, o, oc⟩ => d.n.toNat - k) (0, none, 0) rfl ?_ ?_
 ·exact ⟨Nat.zero_le _, Ch.refl _ _, Own.nil _ _ _, fun b e => by cases e⟩
 intro p a7 K a8 L; obtain ⟨k, o, oc⟩ := p; obtain ⟨hk, j, hO, m⟩ := K; have a9 : F < f.heap.size := x.lt; have M : g < f.heap.size := s.lt; have y := zu v j iZ; have N := s.ch j id; refine yx 1 <| ys <| yc (rL ((k : Nat) : Int) d.n) (fun O => ?_) fun O => ?_
 ·refine yk <| ys <| qa <| q7 <| yq 1 <| yo (yB [rX 65533] 21 1 fun aa q A ab P B => ?_); have ac := zv (b := q) hO; have ad := zn A y; have ae : f.heap.size ≤ q := by rw [A]; exact zzs j
  have C := zt j B eZ; have Q := hO.ch B iZ; refine yo (qaV 21 1 4 o k oc ((List.replicate k 65533).map (Value.int .i32)) (some ⟨q, 0, none⟩) 1 1 [rX 65533] (some 11) (k + 1) rfl ((List.replicate (k + 1) 65533).map (Value.int .i32)) (by rw [List.replicate_succ', List.map_append]; rfl) (by kernel_rfl) Q (Rd.all P) rfl rfl (fun h => by cases h) (by constructor <;> first | omega | (simp only [maxLen]; omega)) ?_); intro af D R S T ag U; have V : ∀ b, D = some b → f.heap.size ≤ b := fun b e => by
   rcases T with h | ⟨g', h, h'⟩
   ·exact m b (h ▸ e)
   rw [h] at e; have := zi e; have := zzs C; omega
  have W := zt C U (fun i hi h => by have := m _ h; omega); refine yq 4 <| yE (nB (nS ?_)); refine q7 <| yp 2 [] (.q6 (((k : Nat) : Int) + 1) .z) <| yE (fun a ha => L (k + 1, D, R) _ ⟨by omega, W, S, V⟩ (by show d.n.toNat - (k + 1) < d.n.toNat - k; omega) a (ha.kp [2, 4, 6, 7]))
 have X : k = d.n.toNat := by omega
 refine qv (eS (qe (qb (nS ?_)))); refine ysr <| yq 2 <| yo (yT [uX 0, uX 0, uX 0, iX 0] N fun ah Y E => ?_); have Z := zu y E (fun i hi (h : i = g) => by omega); have a0 := hO.ch E (fun b e (h : b = g) => by have := m b e; have := M; omega); refine yz 4 <| q8 (yR2 [.agg #[uX 0, uX 0, uX 0, iX 0], .slice (o.map at0) k oc] (.a (Y.cs 0 4) .z) ?_); subst X; have a1 := zzs v; exact ⟨_, _, _, rfl, a0, (fun b e => Nat.le_trans a1 (m b e)), Up.ch Z⟩
theorem qfb {q : Option Nat} {qn qc : Nat} {al : List Ac} (rb rc : Nat) (rl : List Int) (w : World) (hq : Own w qi7 6 q qn qc (qaZ al)) (hr : Rd w (some ⟨rb, 0, none⟩) (rl.map (Value.int .i32))) (hrb : rb < w.heap.size) (hqr : ∀ b, b = rb → ¬ q = some b) (hb : qn ≤ 1000 ∧ rl.length ≤ 1000) : Calls Tryz.prog 77 [.slice (q.map at0) qn qc, .slice (some ⟨rb, 0, none⟩) rl.length rc].toArray w fun e w' => ∃ o n c, e = .returned (.slice (o.map at0) n c) ∧ Own w' qi7 6 o n c (qaZ (al ++ rl.map acP)) ∧ (∀ b, o = some b → q = some b ∨ w.heap.size ≤ b) ∧ Ch (fun b => q = some b) w w' := by
 refine yA Tryz.func77 rfl <| yx 1 <| ys <| yx 3 <| qa <| qa2 [0, 7, 8, 9] (f' := [(0, .slice (q.map at0) qn qc), (7, .slice (some ⟨rb, 0, none⟩) rl.length rc), (8, iX ((rl.length : Nat) : Int)), (9, iX 0)]) <| qG (σ := Nat × Option Nat × Nat) (fun ⟨k, o, oc⟩ => [(0, .slice (o.map at0) (qn + k) oc), (7, .slice (some ⟨rb, 0, none⟩) rl.length rc), (8, iX ((rl.length : Nat) : Int)), (9, iX ((k : Nat) : Int))]) (fun ⟨k, o, oc⟩ u => k ≤ rl.length ∧ Own u qi7 6 o (qn + k) oc (qaZ (al ++ (rl.take k).map acP)) ∧ (∀ b, o = some b → q = some b ∨ w.heap.size ≤ b) ∧ Rd u (some ⟨rb, 0, none⟩) (rl.map (Value.int .i32)) ∧ Ch (fun b => q = some b) w u) (fun ⟨k, o, oc⟩ => rl.length - k) (0, q, qc) rfl ?_ ?_
 ·exact ⟨Nat.zero_le _, by simpa using hq, fun b e => .inl e, hr, (Ch.refl (fun b => q = some b) w)⟩
 intro p M v N x; obtain ⟨k, o, oc⟩ := p; obtain ⟨hk, hO, d, j, f⟩ := v; refine yx 1 <| ys <| yc (rL ((k : Nat) : Int) ((rl.length : Nat) : Int)) (fun y => ?_) fun y => ?_
 ·refine yk <| ys <| qa <| ysr <| yp 3 [] (.i ((k : Nat) : Int) (rl.length) (.l (o := (0 + (((k : Nat) : Int)).toNat * 1)) (qfL j k (by omega)) .z)) <| ye <| q7 <| yq 3 <| yo (yB [iX 0, rX (rl.getD k 0), uX 0, oX, nX, oX] 90 1 fun O A B P C g => ?_); have Q := zn B f; have m := zt f g eZ; have D := hO.ch g iZ; have E := Ch.rd g j id; refine yo (qaV 90 6 72 o (qn + k) oc (qaZ (al ++ (rl.take k).map acP)) (some ⟨A, 0, none⟩) 1 1 [iX 0, rX (rl.getD k 0), uX 0, oX, nX, oX] (some 17) (qn + (k + 1)) (by omega) (qaZ (al ++ (rl.take (k + 1)).map acP)) ((qcx _ (acP (rl.getD k 0))).trans (by rw [take_acP rl k (by omega)])) (by kernel_rfl) D (Rd.all C) rfl rfl (fun h => by cases h) (by constructor <;> first | omega | (simp only [maxLen]; omega)) ?_); intro R r F G H S s; have I : ∀ b, r = some b → q = some b ∨ w.heap.size ≤ b := fun b e => by
   rcases H with h | ⟨g', h, h'⟩
   ·exact d b (h ▸ e)
   rw [h] at e; have := zi e; have := zzs m; exact .inr (by omega)
  have J := zt m s (fun i hi h => (d i h).elim id (fun h => by omega)); have K := Ch.rd s E (fun h => (d _ h).elim (fun h => hqr _ rfl h) (fun h => by omega)); refine yq 6 <| yE (nB (nS ?_)); refine q7 <| yp 2 [] (.q6 (((k : Nat) : Int) + 1) .z) <| yE (fun a ha => x (k + 1, r, F) _ ⟨by omega, G, I, K, J⟩ (by show rl.length - (k + 1) < rl.length - k; omega) a (ha.kp [0, 7, 8, 9]))
 have L : k = rl.length := by omega
 refine qv (eS (qe (qb (nS ?_)))); refine yx 2 <| q8 (yR1 (.slice (o.map at0) (qn + k) oc) ?_); subst L; have t := hO; rw [List.take_length] at t; exact ⟨_, _, _, rfl, t, d, f⟩
theorem qfc {q : Option Nat} {qn qc : Nat} {al : List Ac} (w : World) (rc : Nat) (hq : Own w qi7 6 q qn qc (qaZ al)) : Calls Tryz.prog 77 [.slice (q.map at0) qn qc, .slice none 0 rc].toArray w fun e w' => ∃ o n c, e = .returned (.slice (o.map at0) n c) ∧ Own w' qi7 6 o n c (qaZ al) ∧ (∀ b, o = some b → q = some b ∨ w.heap.size ≤ b) ∧ Ch (fun b => q = some b) w w' := by
 refine yA Tryz.func77 rfl <| yx 1 <| ys <| yx 3 <| qa <| qa2 [0, 7, 8, 9] (f' := [(0, .slice (q.map at0) qn qc), (7, .slice none 0 rc), (8, iX 0), (9, iX 0)]) <| qG (σ := Nat) (fun k => [(0, .slice (q.map at0) qn qc), (7, .slice none 0 rc), (8, iX 0), (9, iX ((k : Nat) : Int))]) (fun k u => Own u qi7 6 q qn qc (qaZ al) ∧ Ch (fun b => q = some b) w u) (fun k => k) 0 rfl ?_ ?_
 ·exact ⟨hq, (Ch.refl (fun b => q = some b) w)⟩
 intro k g a h i; obtain ⟨hO, d⟩ := a; refine yx 1 <| ys <| yc (rL ((k : Nat) : Int) 0) (fun f => ?_) fun f => ?_
 ·exfalso; omega
 refine qv (eS (qe (qb (nS ?_)))); refine yx 2 <| q8 (yR1 (.slice (q.map at0) qn qc) ?_); exact ⟨q, qn, qc, rfl, hO, fun b e => .inl e, d⟩
theorem qbZ {q : Option Nat} {qn qc : Nat} {al : List Ac} {ro : Option Nat} {rn rc : Nat} {rl : List Int} (w : World) (hq : Own w qi7 6 q qn qc (qaZ al)) (hr : Own w qgR 1 ro rn rc (rl.map (Value.int .i32))) (hqr : ∀ b, ro = some b → ¬ q = some b) (hb : qn ≤ 1000 ∧ rn ≤ 1000) : Calls Tryz.prog 77 [.slice (q.map at0) qn qc, .slice (ro.map at0) rn rc].toArray w fun e w' => ∃ o n c, e = .returned (.slice (o.map at0) n c) ∧ Own w' qi7 6 o n c (qaZ (al ++ rl.map acP)) ∧ (∀ b, o = some b → q = some b ∨ w.heap.size ≤ b) ∧ Ch (fun b => q = some b) w w' := by
 have hn := hr.1; rw [List.length_map, Nat.mul_one] at hn; cases ro with
 | none =>
  obtain ⟨rfl, rfl⟩ := hr.2.2.2.1 rfl; obtain rfl : rl = [] := List.eq_nil_of_length_eq_zero hn; simpa using qfc w 0 hq
 | some rb =>
  subst hn; exact qfb rb rc rl w hq hr.rd hr.lt (fun b e => e ▸ hqr rb rfl) hb
theorem qcJ {w : World} {ad : Addr} {l : List Int} {k : IntKind} (h : Rd w (some ad) (l.map (Value.int k))) (n : Nat) : Rd w (some ad) ((l.take n).map (Value.int k)) :=
  ⟨(fun e => by cases e), fun ad' e j u hj => h.2 ad' e j u (by
    rw [List.map_take, List.getElem?_take] at hj
    split at hj
    · exact hj
    · cases hj)⟩
theorem qie (d : US) (c : Int) (w : World) (hU : qc9 w) (hd : d.ok) (hc : 0 ≤ c ∧ c ≤ 255) : Calls Tryz.prog 78 [.agg #[uX d.b0, uX d.b1, uX d.b2, iX d.n], uX c].toArray w fun e w' => ∃ o n cc, e = .returned (.tuple #[.agg #[uX (qbC d c).1.b0, uX (qbC d c).1.b1, uX (qbC d c).1.b2, iX (qbC d c).1.n], .slice (o.map at0) n cc]) ∧ Own w' qgR 1 o n cc (((qbC d c).2).map (Value.int .i32)) ∧ (∀ b, o = some b → w.heap.size ≤ b) ∧ Ch (fun _ => False) w w' := by
 have c4 := hd.n; have c5 : (d.pend ++ [c]).length = d.n.toNat + 1 := by rw [List.length_append, hd.len]; rfl
 have ag : ∀ x ∈ d.pend ++ [c], 0 ≤ x ∧ x ≤ 255 := fun x hx => (List.mem_append.1 hx).elim (hd.pend x) (fun h => by simp at h; omega); refine yA Tryz.func78 rfl <| ysr <| yo (yN [uX d.b0, uX d.b1, uX d.b2, iX d.n] 41 fun c6 H aE c7 aF ah => ?_); have c8 := zn aE (zm w); have ai := zu (zm w) ah iZ; have aG := qX ah hU id id; refine yo (yN [uX 0, uX 0, uX 0, iX 0] 41 fun c9 f aH ca aj T => ?_); have cb := zn aH ai; have ak := zu ai T iZ; have aI := qX T aG id id; have I := aF.ch T id; refine yz 3 <| ysr <| yp 4 [] (.l (I.c 3) (.j d.n (3) .z)) ?_; refine yo (qaV 5 1 1 none 0 0 [] (some ⟨H, 0, none⟩) (d.n : Int).toNat 3 (d.pend.map (Value.int .u8)) (some 15) d.n.toNat (Nat.zero_add _) (d.pend.map (Value.int .u8)) rfl (by kernel_rfl) (Own.nil _ _ _) (hd.rd I) (by rw [List.length_map, hd.len, Nat.mul_one]) (qc8 _) (fun h => by cases h) (by constructor <;> first | omega | (simp only [maxLen]; omega)) ?_); intro cd J aJ aK U ce y; replace y := qea y; have al : ¬ J = some H := fun e => by
  rcases U with h | ⟨g', h, h'⟩
  ·rw [h] at e; cases e
  rw [h] at e; have := zi e; have := I.lt; omega
 have am : ¬ J = some f := fun e => by
  rcases U with h | ⟨g', h, h'⟩
  ·rw [h] at e; cases e
  rw [h] at e; have := zi e; have := aj.lt; omega
 have K : ∀ b, J = some b → w.heap.size ≤ b := fun b e => by
  rcases U with h | ⟨g', h, h'⟩
  ·rw [h] at e; cases e
  rw [h] at e; have := zi e; have := zzs ak; omega
 have an := zu ak y iZ; have aL := qX y aI id id; have aM := I.ch y id; have aN := aj.ch y id; refine yq 6 <| yo (yB [uX c] 5 1 fun cf aO aP cg aQ A => ?_); have ci := zn aP an; have ao := zu an A iZ; have aR := qX A aL id id; have ap := aM.ch A id; have aq := aN.ch A id; have aS := aK.ch A iZ; refine yo (qaV 5 1 1 J d.n.toNat aJ (d.pend.map (Value.int .u8)) (some ⟨aO, 0, none⟩) 1 1 [uX c] (some 18) (d.n.toNat + 1) rfl ((d.pend ++ [c]).map (Value.int .u8)) (by rw [List.map_append]; rfl) (by kernel_rfl) aS (Rd.all aQ) rfl rfl (fun h => by cases h) (by constructor <;> first | omega | (simp only [maxLen]; omega)) ?_); intro s aT V W X aU L; obtain ⟨g, rfl⟩ : ∃ b, aT = some b := aU (by omega); have cj : Df H g := qcI X (fun h => al h) ap.lt; have ck : Df f g := qcI X (fun h => am h) aq.lt; have cl : w.heap.size ≤ g := by
  rcases X with h | ⟨g', h, h'⟩
  ·exact K _ h.symm
  have := zi h; have := zzs ao; omega
 have Y := zu ao L (fun i hi h => by have := K _ h; omega); have aV := qX L aR (fun h => by have := K _ h; have := qep hU; omega) (fun h => by have := K _ h; have := qep hU; omega); have aW := ap.ch L al; have ar := aq.ch L am; refine yz 9 <| yx 1 <| ys <| qa <| qa2 [4, 6, 7] (f' := [(4, pX f), (6, .slice (some ⟨g, 0, none⟩) (d.n.toNat + 1) V), (7, nX)]) <| qG (σ := Nat × Option Nat × Nat × Nat × Nat) (fun ⟨k, o, oc, m, cp⟩ => [(4, pX f), (6, .slice (some ⟨g, m, none⟩) (itU (d.pend ++ [c]) k).2.length cp), (7, .slice (o.map at0) k oc)]) (fun ⟨k, o, oc, m, cp⟩ u => (itU (d.pend ++ [c]) k).1.length = k ∧ (itU (d.pend ++ [c]) k).2.length ≤ cp ∧ Rd u (some ⟨g, m, none⟩) ((itU (d.pend ++ [c]) k).2.map (Value.int .u8)) ∧ Ch (fun _ => False) s u ∧ Own u qgR 1 o k oc ((itU (d.pend ++ [c]) k).1.map (Value.int .i32)) ∧ ∀ b, o = some b → s.heap.size ≤ b) (fun ⟨k, o, oc, m, cp⟩ => d.n.toNat + 1 - k) (0, none, 0, 0, V) (by show _ = _; simp only [itU, List.length_append, hd.len]; rfl) ?_ ?_
 ·exact ⟨rfl, by show (d.pend ++ [c]).length ≤ V; have := W.2.1; rw [List.length_append, hd.len]; exact this, W.rd, Ch.refl _ _, Own.nil _ _ _, fun b e => by cases e⟩
 intro p cm aX cn aY; obtain ⟨k, o, oc, m, cp⟩ := p; obtain ⟨aZ, b3, Z, B, hO, t⟩ := aX; have co := itU_len ag k; have a0 := qdb ag k; have cq : H < s.heap.size := aW.lt; have au : f < s.heap.size := ar.lt; have av : g < s.heap.size := W.lt; have a1 := zu Y B iZ; have aw := qX B aV id id; have M := ar.ch B id; have a2 := Nat.lt_of_lt_of_le av (zzs B); refine ys <| ysr <| yq 4 <| yw [22] (rL 0 (((itU (d.pend ++ [c]) k).2.length : Nat) : Int)) (fun b4 => ?_) fun b4 => ?_
 ·refine yq 5 <| yo (yQ (qfa g m cp (itU (d.pend ++ [c]) k).2 aw Z a2 a0 (by omega)) fun cr v => ?_); have a3 := zu a1 v iZ; have b5 := zt B v eZ; have b6 := qX v aw id id; have a4 := M.ch v id; have a5 := Ch.rd v Z id; have a6 := Nat.lt_of_lt_of_le a2 (zzs v); have a7 := hO.ch v iZ; refine yz 7 <| yc (rY (qbY (itU (d.pend ++ [c]) k).2)) (fun N => ?_) fun N => ?_
  ·have b7 := N; refine yk <| qa <| ysr <| yq 1 <| yo (yQ (qfK g m cp (itU (d.pend ++ [c]) k).2 b6 a5 a6 a0 (by omega)) fun ct C => ?_); have b8 := zu a3 C iZ; have b9 := zt b5 C eZ; have ba := Ch.rd C a5 id; have bb := Nat.lt_of_lt_of_le a6 (zzs C); have bc := a7.ch C iZ; have cu := qib a0 (by omega); refine yz 7 <| yD [2, 3] fun cv cw D => ?_; have bd := zu b8 D iZ; have ax := zt b9 D eZ; have bf := Ch.rd D ba id; have bg := Nat.lt_of_lt_of_le bb (zzs D); have ay := bc.ch D iZ; refine ydT [0, 1, 4, 5, 6] [] rfl (fun _ => (.j (qeq (itU (d.pend ++ [c]) k).2).2 ((itU (d.pend ++ [c]) k).2.length) .z)) <| yK 2 (yB [rX (qeq (itU (d.pend ++ [c]) k).2).1] 21 1 fun cx a8 az cy bh O => ?_); have cz := zv (b := a8) ay; have cA := zn az bd; have cB : s.heap.size ≤ a8 := by rw [az]; exact zzs ax
   have aA := zt ax O eZ; have bi := Ch.rd O bf id; have bj := Nat.lt_of_lt_of_le bg (zzs O); have bk := ay.ch O iZ; refine q9 ?_; refine yK 3 (qaV 21 1 4 o k oc ((itU (d.pend ++ [c]) k).1.map (Value.int .i32)) (some ⟨a8, 0, none⟩) 1 1 [rX (qeq (itU (d.pend ++ [c]) k).2).1] (some 34) (k + 1) rfl (((itU (d.pend ++ [c]) k).1 ++ [(qeq (itU (d.pend ++ [c]) k).2).1]).map (Value.int .i32)) (by rw [List.map_append]; rfl) (by kernel_rfl) bk (Rd.all bh) rfl rfl (fun h => by cases h) (by constructor <;> first | omega | (simp only [maxLen]; omega)) ?_); intro cC aB bl bm bn cD a9; have bo : ∀ b, aB = some b → s.heap.size ≤ b := fun b e => by
    rcases bn with h | ⟨g', h, h'⟩
    ·exact t b (h ▸ e)
    rw [h] at e; have := zi e; have := zzs aA; omega
   have bp := zt aA a9 (fun i hi h => by have := t _ h; omega); have bq := Ch.rd a9 bi (fun h => by have := t _ h; have := av; omega); have cE := Nat.lt_of_lt_of_le bj (zzs a9); refine q9 <| yd [7, 8] [] .z <| yDe (nB  (fun a ha => aY (k + 1, aB, bl, (if cp = ((qeq (itU (d.pend ++ [c]) k).2).2 : Int).toNat then m else m + ((qeq (itU (d.pend ++ [c]) k).2).2 : Int).toNat * 1), (cp - ((qeq (itU (d.pend ++ [c]) k).2).2 : Int).toNat)) _ ⟨by rw [(qf8 (l := (d.pend ++ [c])) (k := k) (by omega) (by assumption)), List.length_append, aZ]; rfl, (by rw [(qf8 (l := (d.pend ++ [c])) (k := k) (by omega) (by assumption)), List.length_drop]; omega), (by rw [(qf8 (l := (d.pend ++ [c])) (k := k) (by omega) (by assumption)), List.map_drop]; exact qic bq (by rw [List.length_map]; exact b3)), bp, (by rw [(qf8 (l := (d.pend ++ [c])) (k := k) (by omega) (by assumption))]; exact bm), bo⟩ (by show d.n.toNat + 1 - (k + 1) < d.n.toNat + 1 - k; omega) a (by simp only [(qf8 (l := (d.pend ++ [c])) (k := k) (by omega) (by assumption)), List.length_drop]; exact ha.kp [4, 6, 7])))
  have E := qgd (l := (d.pend ++ [c])) (k := k) (fun hx => absurd (hx.2.symm.trans N) (by decide)) (4 - k); have b7 := N; refine qv (eS (qe (qb (nS ?_)))); refine ysr <| yo (yN [uX 0, uX 0, uX 0, iX 0] 41 fun cF q br cG bs F => ?_); have aC := zv (b := q) a7; have cH := zn br a3; have bt := zu a3 F iZ; have bu := a4.ch F id; have bv := Ch.rd F a5 id; have bw := Nat.lt_of_lt_of_le a6 (zzs F); have bx := a7.ch F iZ; refine ye <| ysr <| yq 3 ?_; have aa : ((itU (d.pend ++ [c]) k).2.take 3).length ≤ 3 := by rw [List.length_take]; omega
  refine yo (qby 1 q 0 3 3 (some ⟨g, m, none⟩) (itU (d.pend ++ [c]) k).2.length cp (((itU (d.pend ++ [c]) k).2.take 3).map (Value.int .u8)) (some 41) ((itU (d.pend ++ [c]) k).2.take 3).length (by rw [List.length_take]; omega) (by kernel_rfl) bs (qcJ bv 3) (by rw [List.length_map, Nat.mul_one]) (qc8 _) (by rw [List.length_map]; simp only [List.length_cons, List.length_nil]; omega) ?_); intro cI ab P; have bz := zu bt P (fun i hi (h : i = q) => by omega); have bA := bu.ch P (fun (h : f = q) => by have := a4.lt; omega); have bB := Nat.lt_of_lt_of_le bw (zzs P); have bC := bx.ch P (fun b e (h : b = q) => aC b e h); replace ab := qf9 aa rfl ab; refine yq 5 <| yo (yT [uX (mkU ((itU (d.pend ++ [c]) k).2.take 3)).b0, uX (mkU ((itU (d.pend ++ [c]) k).2.take 3)).b1, uX (mkU ((itU (d.pend ++ [c]) k).2.take 3)).b2, iX ((((itU (d.pend ++ [c]) k).2.take 3).length : Nat) : Int)] ab fun cJ bD Q => ?_); have bE := zu bz Q (fun i hi (h : i = q) => by omega); have bF := bA.ch Q (fun (h : f = q) => by have := a4.lt; omega); have bG := Nat.lt_of_lt_of_le bB (zzs Q); have bH := bC.ch Q (fun b e (h : b = q) => aC b e h); refine ye <| ysr <| yp 2 [] (.a (bD.cs 0 4) .z) <| yo (yT [uX (mkU ((itU (d.pend ++ [c]) k).2.take 3)).b0, uX (mkU ((itU (d.pend ++ [c]) k).2.take 3)).b1, uX (mkU ((itU (d.pend ++ [c]) k).2.take 3)).b2, iX ((((itU (d.pend ++ [c]) k).2.take 3).length : Nat) : Int)] bF fun cK bI ac => ?_); have bJ := zu bE ac (fun i hi (h : i = f) => by omega); have cL := Nat.lt_of_lt_of_le bG (zzs ac)
  have bK := bH.ch ac (fun b e (h : b = f) => by have := t b e; have := au; omega); refine yz 4 <| q8 (yR2 [.agg #[uX (mkU ((itU (d.pend ++ [c]) k).2.take 3)).b0, uX (mkU ((itU (d.pend ++ [c]) k).2.take 3)).b1, uX (mkU ((itU (d.pend ++ [c]) k).2.take 3)).b2, iX ((((itU (d.pend ++ [c]) k).2.take 3).length : Nat) : Int)], .slice (o.map at0) k oc] (.a (bI.cs 0 4) .z) ?_); rw [show k + (4 - k) = 4 by omega] at E; unfold qbC; rw [E]; have ad := zzs Y; exact ⟨_, _, _, rfl, bK, (fun b e => Nat.le_trans ad (t b e)), Up.ch bJ⟩
 have E := qgd (l := (d.pend ++ [c])) (k := k) (fun hx => by omega) (4 - k); refine yz 7 <| ycf <| qv (eS (qe (qb (nS ?_)))); refine ysr <| yo (yN [uX 0, uX 0, uX 0, iX 0] 41 fun cM r bL cN bM G => ?_); have aD := zv (b := r) hO; have cO := zn bL a1; have bN := zu a1 G iZ; have bO := M.ch G id; have bP := Ch.rd G Z id; have bQ := Nat.lt_of_lt_of_le a2 (zzs G); have bR := hO.ch G iZ; refine ye <| ysr <| yq 3 ?_; have aa : ((itU (d.pend ++ [c]) k).2.take 3).length ≤ 3 := by rw [List.length_take]; omega
 refine yo (qby 1 r 0 3 3 (some ⟨g, m, none⟩) (itU (d.pend ++ [c]) k).2.length cp (((itU (d.pend ++ [c]) k).2.take 3).map (Value.int .u8)) (some 41) ((itU (d.pend ++ [c]) k).2.take 3).length (by rw [List.length_take]; omega) (by kernel_rfl) bM (qcJ bP 3) (by rw [List.length_map, Nat.mul_one]) (qc8 _) (by rw [List.length_map]; simp only [List.length_cons, List.length_nil]; omega) ?_); intro cP ae R; have bS := zu bN R (fun i hi (h : i = r) => by omega); have bT := bO.ch R (fun (h : f = r) => by have := M.lt; omega); have bU := Nat.lt_of_lt_of_le bQ (zzs R); have bV := bR.ch R (fun b e (h : b = r) => aD b e h); replace ae := qf9 aa rfl ae; refine yq 5 <| yo (yT [uX (mkU ((itU (d.pend ++ [c]) k).2.take 3)).b0, uX (mkU ((itU (d.pend ++ [c]) k).2.take 3)).b1, uX (mkU ((itU (d.pend ++ [c]) k).2.take 3)).b2, iX ((((itU (d.pend ++ [c]) k).2.take 3).length : Nat) : Int)] ae fun cQ bW S => ?_); have bX := zu bS S (fun i hi (h : i = r) => by omega); have bY := bT.ch S (fun (h : f = r) => by have := M.lt; omega); have bZ := Nat.lt_of_lt_of_le bU (zzs S); have c0 := bV.ch S (fun b e (h : b = r) => aD b e h); refine ye <| ysr <| yp 2 [] (.a (bW.cs 0 4) .z) <| yo (yT [uX (mkU ((itU (d.pend ++ [c]) k).2.take 3)).b0, uX (mkU ((itU (d.pend ++ [c]) k).2.take 3)).b1, uX (mkU ((itU (d.pend ++ [c]) k).2.take 3)).b2, iX ((((itU (d.pend ++ [c]) k).2.take 3).length : Nat) : Int)] bY fun cR c1 af => ?_); have c2 := zu bX af (fun i hi (h : i = f) => by omega); have cS := Nat.lt_of_lt_of_le bZ (zzs af)
 have c3 := c0.ch af (fun b e (h : b = f) => by have := t b e; have := au; omega); refine yz 4 <| q8 (yR2 [.agg #[uX (mkU ((itU (d.pend ++ [c]) k).2.take 3)).b0, uX (mkU ((itU (d.pend ++ [c]) k).2.take 3)).b1, uX (mkU ((itU (d.pend ++ [c]) k).2.take 3)).b2, iX ((((itU (d.pend ++ [c]) k).2.take 3).length : Nat) : Int)], .slice (o.map at0) k oc] (.a (c1.cs 0 4) .z) ?_); rw [show k + (4 - k) = 4 by omega] at E; unfold qbC; rw [E]; have ad := zzs Y; exact ⟨_, _, _, rfl, c3, (fun b e => Nat.le_trans ad (t b e)), Up.ch c2⟩
theorem qgU : u0.ok := ⟨by decide, by decide, by decide, by decide⟩
theorem qdS {X : US × List Int} {d : US} {c : Int} (hX : qbC d c = X) (d' : US) (c' : Int) (w : World) (hU : qc9 w) (hd : d.ok) (hc : 0 ≤ c ∧ c ≤ 255) : Calls Tryz.prog 78 [.agg #[uX d.b0, uX d.b1, uX d.b2, iX d.n], uX c].toArray w fun e w' => ∃ o n cc, e = .returned (.tuple #[.agg #[uX X.1.b0, uX X.1.b1, uX X.1.b2, iX X.1.n], .slice (o.map at0) n cc]) ∧ Own w' qgR 1 o n cc ((X.2).map (Value.int .i32)) ∧ (∀ b, o = some b → w.heap.size ≤ b) ∧ Ch (fun _ => False) w w' := by
 subst hX; exact qie d c w hU hd hc
theorem qcc {d : US} (h : d.ok) (c : Int) : (qbC d c).2.length ≤ 4 := by
 have : ∀ (l : List Int) k, (itU l k).1.length ≤ k := fun l k => by
  induction k with
  | zero => simp [itU]
  | succ k ih =>
   unfold itU; split
   ·simp only [List.length_append, List.length_cons, List.length_nil]; omega
   omega
 exact this _ 4
theorem qgV {w : World} {po : Option Nat} {pn pc : Nat} {p : PS} (hP : IntsAt w .i64 po pn pc p.params (fun b => po = some b)) (c : Int) (hcB : 0 ≤ c ∧ c ≤ 255) (hU : qc9 w) (hp : p.lim) : Calls Tryz.prog 55 [.agg #[iX p.state, uX p.utf.b0, uX p.utf.b1, uX p.utf.b2, iX p.utf.n, .string p.marks, .slice (po.map at0) pn pc, .string p.text, iX p.within], uX c].toArray w fun e w' => Fed w w' e po (qA p c).1 (qA p c).2 := by
 refine yA Tryz.func55 rfl <| ysr <| yo (yN [iX p.state, uX p.utf.b0, uX p.utf.b1, uX p.utf.b2, iX p.utf.n, .string p.marks, .slice (po.map at0) pn pc, .string p.text, iX p.within] 44 fun d5 f bl d6 a0 ac => ?_); have I := zn bl (zm w); have av := zu (zm w) ac iZ; have bm := hP.ch ac iZ; have bn := qX ac hU id id; refine yo (yN [iX 0, uX 0, uX 0, uX 0, iX 0, oX, nX, oX, iX 0] 44 fun a1 d bo d7 a2 a3 => ?_); have a4 := zn bo av; have aw := zu av a3 iZ; have ax := bm.ch a3 iZ; have ay := qX a3 bn id id; have B := a0.ch a3 id; refine yz 3 <| yx 1 <| yx 1 <| ys <| yx 2 <| yc (rL c 128) (fun C => ?_) fun C => ?_
 ·refine ysr <| yp 2 [] (.a (B.cs 1 4) .z) ?_; have bp : f < a1.heap.size := B.lt; have d8 : d < a1.heap.size := a2.lt; refine yo (yC (qid p.utf _ hp.u.n) ?_); rintro _ d9 ⟨da, db, dc, rfl, bq, br, J⟩; refine ⟨_, rfl, ?_⟩; have bs := zu aw J iZ; have bt := ax.ch J iZ; have bu := qX J ay id id; have bv := B.ch J id; have bw := a2.ch J id; refine yq 7 <| yo (yT [iX p.state, uX 0, uX 0, uX 0, iX 0, .string p.marks, .slice (po.map at0) pn pc, .string p.text, iX p.within] bv fun az aA K => ?_); have aB := zu bs K (fun i hi (h : i = f) => by omega); have bx := bt.ch K (fun b hb (e : b = f) => by have := (hP.2.2.2 b hb).2; have := I; omega); have bz := qX K bu (fun (h : qdQ = f) => by have := qep hU; have := I; omega) (fun (h : gAcc = f) => by have := qep hU; have := I; omega); have aC := bw.ch K (fun (h : d = f) => by have := a0.lt; omega); have aD := bq.ch K (fun b e (h : b = f) => by have := br b e; have := bp; omega); refine yz 9 <| q7 <| yq 2 ?_; have bA : d < az.heap.size := aC.lt; have bB : f < az.heap.size := aA.lt; have bC := aD.1; rw [List.length_map, Nat.mul_one] at bC; have dd : (qac p.utf).length ≤ 3 := by unfold qac; rw [List.length_replicate]; have := hp.u.n; omega
  refine yo (yC (qbZ (q := none) (al := []) _ (Own.nil _ _ _) aD (fun b e h => by cases h) (by constructor <;> omega)) ?_); rintro _ ad ⟨o, r, a5, rfl, L, ae, v⟩; refine ⟨_, rfl, ?_⟩; replace v := qea v; have s : ∀ b, o = some b → w.heap.size ≤ b := fun b e => (ae b e).elim (fun h => by cases h) (fun h => by have := zzs aB; omega); have a6 := zu aB v iZ; have af := bx.ch v iZ; have bD := qX v bz id id; have M := aC.ch v id; have N := aA.ch v id; have x : ∀ b', o = some b' → ¬ b' = d := fun b' e h => (ae b' e).elim (fun j => by cases j) (fun j => by have := bA; omega); have y : ∀ b', o = some b' → ¬ b' = f := fun b' e h => (ae b' e).elim (fun j => by cases j) (fun j => by have := bB; omega); refine yz 4 <| ys <| qa <| yx 3 <| yc (rE c 27) (fun t => ?_) fun t => ?_
  ·refine ysr <| yo (yQ (qN 1 _) fun de ag => ?_); have bE := zu a6 ag iZ; have bF := M.ch ag id; have bG := L.ch ag iZ; refine yq 2 <| yo (yT [iX 1, uX 0, uX 0, uX 0, iX 0, oX, nX, oX, iX 0] bF fun df bH aE => ?_); have bI := zu bE aE (fun i hi (h : i = d) => by omega); have aF := bG.ch aE (fun b e (h : b = d) => x b e h); refine yz 4 <| q8 (rB (rS (yR2 [.agg #[iX 1, uX 0, uX 0, uX 0, iX 0, oX, nX, oX, iX 0], .slice (o.map at0) r a5] (.a (bH.cs 0 9) .z) ?_))); refine Fed.mk' (p' := (PS.mk 1 ⟨0, 0, 0, 0⟩ ByteArray.empty [] ByteArray.empty 0)) (l := ([] ++ (qac p.utf).map acP)) none 0 0 o r a5 (.inr (fun b h => by cases h)) rfl (IntsAt.nil _ _ _) (qaY aF ?_ fun b e => ⟨s b e, aF.ltOf e⟩) (Up.ch bI) ?_
   ·simp only [List.mem_append, List.mem_map, List.not_mem_nil, false_or, List.mem_singleton]; rintro a ⟨_, _, rfl⟩ <;> rfl
   simp only [qA, atP, C, t, ↓reduceIte, Int.reduceLT, Int.reduceLE, Int.reduceEq, and_true, true_and, or_true, true_or, or_false, false_or, and_self, List.nil_append, List.append_assoc, u0]
  refine ysr <| yq 3 <| yw [28] (rL c 32) (fun A => ?_) fun A => ?_
  ·refine yz 7 <| yct <| ys <| qen (fun b => o = some b) [6] (by kernel_rfl) (fun dg dh O => ?_); have aG := zu a6 O iZ; have bJ := af.ch O iZ; have bK := M.ch O id; have aH := N.ch O id; have aI := L.ch O iZ; refine ydC (uL 0 4) [] (fun u hu => (.a (qar hu (aH.cs 0 9) (fun h => y _ h rfl)) .z)) <| yH 4 (yB [iX 1, rX 0, uX c, oX, nX, oX] 90 1 fun di aJ bL dj bM D => ?_); have dk := zv (b := aJ) aI; have dl := zn bL aG; have aK := zu aG D iZ; have bN := bJ.ch D iZ; have aL := bK.ch D id; have bO := aH.ch D id; have aM := aI.ch D iZ; refine qd7 D eZ ?_; have P := aM.1; rw [qcb] at P; have aN : ([] ++ (qac p.utf).map acP).length ≤ 3 := by simp only [List.length_append, List.length_map, List.length_nil]; omega
   refine yH 5 (qaV 90 6 72 o r a5 (qaZ ([] ++ (qac p.utf).map acP)) (some ⟨aJ, 0, none⟩) 1 1 [iX 1, rX 0, uX c, oX, nX, oX] (some 37) (r + 1) rfl (qaZ (([] ++ (qac p.utf).map acP) ++ [acX c])) (qcx _ (acX c)) (by kernel_rfl) aM (Rd.all bM) rfl rfl (fun h => by cases h) (by constructor <;> first | omega | (simp only [maxLen]; omega)) ?_); intro dm Q aO bP ah dn a7; have bQ : ∀ b', Q = some b' → ¬ b' = d := fun b' e h => by
    rcases ah with g | ⟨g', g, R⟩
    ·exact x b' (g ▸ e) h
    rw [g] at e; have := zi e; have := aL.lt; omega
   have dp : ∀ b', Q = some b' → ¬ b' = f := fun b' e h => by
    rcases ah with g | ⟨g', g, R⟩
    ·exact y b' (g ▸ e) h
    rw [g] at e; have := zi e; have := bO.lt; omega
   have bR : ∀ b, Q = some b → w.heap.size ≤ b := fun b e => by
    rcases ah with g | ⟨g', g, R⟩
    ·exact s b (g ▸ e)
    rw [g] at e; have := zi e; have := zzs aK; omega
   have bS := zu aK a7 (fun i hi h => by have := s _ h; omega); have bT := bN.ch a7 (fun b hb h => by have := (hP.2.2.2 b hb).2; have := s _ h; omega); have bU := aL.ch a7 (fun h => x _ h rfl); refine qd7 a7 iZ <| yK 6 (yT [iX p.state, uX 0, uX 0, uX 0, iX 0, .string p.marks, .slice (po.map at0) pn pc, .string p.text, iX p.within] bU fun dq bV ai => ?_); have bW := zu bS ai (fun i hi (h : i = d) => by omega); have bX := bT.ch ai (fun b hb (e : b = d) => by have := (hP.2.2.2 b hb).2; have := a4; omega); have aP := bP.ch ai (fun b e (h : b = d) => bQ b e h); refine q9 <| yd [7] [] .z <| yDe (nS ?_); refine q8 (rB (rS (yR2 [.agg #[iX p.state, uX 0, uX 0, uX 0, iX 0, .string p.marks, .slice (po.map at0) pn pc, .string p.text, iX p.within], .slice (Q.map at0) (r + 1) aO] (.a (bV.cs 0 9) .z) ?_))); refine Fed.mk' (p' := (PS.mk p.state ⟨0, 0, 0, 0⟩ p.marks p.params p.text p.within)) (l := (([] ++ (qac p.utf).map acP) ++ [acX c])) po pn pc Q (r + 1) aO (.inr (fun b h => (hP.2.2.2 b h).2)) rfl (bX.old) (qaY aP ?_ fun b e => ⟨bR b e, aP.ltOf e⟩) (Up.ch bW) ?_
   ·simp only [List.mem_append, List.mem_map, List.not_mem_nil, false_or, List.mem_singleton]; rintro a ((⟨_, _, rfl⟩ | rfl)) <;> rfl
   simp only [qA, atP, C, t, A, ↓reduceIte, Int.reduceLT, Int.reduceLE, Int.reduceEq, and_true, true_and, or_true, true_or, or_false, false_or, and_self, List.nil_append, List.append_assoc, u0]
  refine yz 7 <| yc (rE c 127) (fun E => ?_) fun E => ?_
  ·refine ys <| qen (fun b => o = some b) [6] (by kernel_rfl) (fun dr ds S => ?_); have aQ := zu a6 S iZ; have bY := af.ch S iZ; have bZ := M.ch S id; have aR := N.ch S id; have aS := L.ch S iZ; refine ydC (uL 0 4) [] (fun u hu => (.a (qar hu (aR.cs 0 9) (fun h => y _ h rfl)) .z)) <| yH 4 (yB [iX 1, rX 0, uX c, oX, nX, oX] 90 1 fun dt aT c0 du c1 F => ?_); have dv := zv (b := aT) aS; have dw := zn c0 aQ; have aU := zu aQ F iZ; have c2 := bY.ch F iZ; have aV := bZ.ch F id; have c3 := aR.ch F id; have aW := aS.ch F iZ; refine qd7 F eZ ?_; have P := aW.1; rw [qcb] at P; have aN : ([] ++ (qac p.utf).map acP).length ≤ 3 := by simp only [List.length_append, List.length_map, List.length_nil]; omega
   refine yH 5 (qaV 90 6 72 o r a5 (qaZ ([] ++ (qac p.utf).map acP)) (some ⟨aT, 0, none⟩) 1 1 [iX 1, rX 0, uX c, oX, nX, oX] (some 37) (r + 1) rfl (qaZ (([] ++ (qac p.utf).map acP) ++ [acX c])) (qcx _ (acX c)) (by kernel_rfl) aW (Rd.all c1) rfl rfl (fun h => by cases h) (by constructor <;> first | omega | (simp only [maxLen]; omega)) ?_); intro dx T aX c4 aj dy a8; have c5 : ∀ b', T = some b' → ¬ b' = d := fun b' e h => by
    rcases aj with g | ⟨g', g, R⟩
    ·exact x b' (g ▸ e) h
    rw [g] at e; have := zi e; have := aV.lt; omega
   have dz : ∀ b', T = some b' → ¬ b' = f := fun b' e h => by
    rcases aj with g | ⟨g', g, R⟩
    ·exact y b' (g ▸ e) h
    rw [g] at e; have := zi e; have := c3.lt; omega
   have c6 : ∀ b, T = some b → w.heap.size ≤ b := fun b e => by
    rcases aj with g | ⟨g', g, R⟩
    ·exact s b (g ▸ e)
    rw [g] at e; have := zi e; have := zzs aU; omega
   have c7 := zu aU a8 (fun i hi h => by have := s _ h; omega); have c8 := c2.ch a8 (fun b hb h => by have := (hP.2.2.2 b hb).2; have := s _ h; omega); have c9 := aV.ch a8 (fun h => x _ h rfl); refine qd7 a8 iZ <| yK 6 (yT [iX p.state, uX 0, uX 0, uX 0, iX 0, .string p.marks, .slice (po.map at0) pn pc, .string p.text, iX p.within] c9 fun dA ca ak => ?_); have cb := zu c7 ak (fun i hi (h : i = d) => by omega); have cc := c8.ch ak (fun b hb (e : b = d) => by have := (hP.2.2.2 b hb).2; have := a4; omega); have aY := c4.ch ak (fun b e (h : b = d) => c5 b e h); refine q9 <| yd [7] [] .z <| yDe (nS ?_); refine q8 (rB (rS (yR2 [.agg #[iX p.state, uX 0, uX 0, uX 0, iX 0, .string p.marks, .slice (po.map at0) pn pc, .string p.text, iX p.within], .slice (T.map at0) (r + 1) aX] (.a (ca.cs 0 9) .z) ?_))); refine Fed.mk' (p' := (PS.mk p.state ⟨0, 0, 0, 0⟩ p.marks p.params p.text p.within)) (l := (([] ++ (qac p.utf).map acP) ++ [acX c])) po pn pc T (r + 1) aX (.inr (fun b h => (hP.2.2.2 b h).2)) rfl (cc.old) (qaY aY ?_ fun b e => ⟨c6 b e, aY.ltOf e⟩) (Up.ch cb) ?_
   ·simp only [List.mem_append, List.mem_map, List.not_mem_nil, false_or, List.mem_singleton]; rintro a ((⟨_, _, rfl⟩ | rfl)) <;> rfl
   simp only [qA, atP, C, t, A, E, ↓reduceIte, Int.reduceLT, Int.reduceLE, Int.reduceEq, and_true, true_and, or_true, true_or, or_false, false_or, and_self, List.nil_append, List.append_assoc, u0]
  refine qk (nB (nS ?_)); refine ysr <| yp 3 [] (.a (N.cs 1 4) .z) ?_; have dB : d < ad.heap.size := M.lt; have cd : f < ad.heap.size := N.lt; obtain ⟨k, am⟩ : ∃ X, qbC u0 c = X := ⟨_, rfl⟩
  have ce : ∀ b, o = some b → b < ad.heap.size := fun b e => L.ltOf e; refine yo (yC (qdS am u0 c _ bD qgU hcB) ?_); rintro _ dC ⟨dD, dE, dF, rfl, cf, aZ, U⟩; refine ⟨_, rfl, ?_⟩; have cg := zu a6 U iZ; have ci := af.ch U iZ; have cj := M.ch U id; have ck := N.ch U id; have cl := L.ch U iZ; refine yq 8 <| yo (yT [iX p.state, uX k.1.b0, uX k.1.b1, uX k.1.b2, iX k.1.n, .string p.marks, .slice (po.map at0) pn pc, .string p.text, iX p.within] ck fun dG cm V => ?_); have cn := zu cg V (fun i hi (h : i = f) => by omega); have co := ci.ch V (fun b hb (e : b = f) => by have := (hP.2.2.2 b hb).2; have := I; omega); have cp := cj.ch V (fun (h : d = f) => by have := a0.lt; omega); have cq := cl.ch V (fun b e (h : b = f) => y b e h); have cr := cf.ch V (fun b e (h : b = f) => by have := aZ b e; have := cd; omega); refine yz 10 <| ys <| qen (fun b => o = some b) [4] (by kernel_rfl) (fun b3 dH G => ?_); have b4 := zu cn G iZ; have ct := co.ch G iZ; have b5 := cp.ch G id; have b6 := cq.ch G iZ; have b7 := cr.ch G iZ; have b8 := cm.ch G id; refine ydC (uL 0 3) [] (fun u hu => (.a (qar hu (b8.cs 0 9) (fun h => y _ h rfl)) .z)) ?_; have cu : d < b3.heap.size := b5.lt; have cv : f < b3.heap.size := b8.lt; have cw := b7.1; rw [List.length_map, Nat.mul_one] at cw; have an := qcc qgU c; rw [am] at an; have P := b6.1; rw [qcb] at P; have aN : ([] ++ (qac p.utf).map acP).length ≤ 3 := by simp only [List.length_append, List.length_map, List.length_nil]; omega
  refine yH 3 (yC (qbZ (q := o) (al := ([] ++ (qac p.utf).map acP)) _ b6 b7 (fun b e h => by have := aZ b e; have := ce b h; omega) (by constructor <;> omega)) ?_); rintro _ dI ⟨W, b9, ba, rfl, cx, ao, a9⟩; refine ⟨_, rfl, ?_⟩; have cy : ∀ b, W = some b → w.heap.size ≤ b := fun b e => (ao b e).elim (fun h => s b h) (fun h => by have := zzs b4; omega); have cz := zu b4 a9 (fun i hi h => by have := s _ h; omega); have cA := ct.ch a9 (fun b hb h => by have := (hP.2.2.2 b hb).2; have := s _ h; omega); have cB := b5.ch a9 (fun h => x _ h rfl); have cC : ∀ b', W = some b' → ¬ b' = d := fun b' e h => (ao b' e).elim (fun j => (x b' j h)) (fun j => by have := cu; omega); have dJ : ∀ b', W = some b' → ¬ b' = f := fun b' e h => (ao b' e).elim (fun j => (y b' j h)) (fun j => by have := cv; omega); refine qd7 a9 iZ <| yK 4 (yT [iX p.state, uX k.1.b0, uX k.1.b1, uX k.1.b2, iX k.1.n, .string p.marks, .slice (po.map at0) pn pc, .string p.text, iX p.within] cB fun dK cD ap => ?_); have cE := zu cz ap (fun i hi (h : i = d) => by omega); have cF := cA.ch ap (fun b hb (e : b = d) => by have := (hP.2.2.2 b hb).2; have := a4; omega); have bb := cx.ch ap (fun b e (h : b = d) => cC b e h); refine q9 <| yd [5] [] .z <| yDe (nS ?_); refine q8 (yR2 [.agg #[iX p.state, uX k.1.b0, uX k.1.b1, uX k.1.b2, iX k.1.n, .string p.marks, .slice (po.map at0) pn pc, .string p.text, iX p.within], .slice (W.map at0) b9 ba] (.a (cD.cs 0 9) .z) ?_); refine Fed.mk' (p' := (PS.mk p.state ⟨k.1.b0, k.1.b1, k.1.b2, k.1.n⟩ p.marks p.params p.text p.within)) (l := (([] ++ (qac p.utf).map acP) ++ k.2.map acP)) po pn pc W b9 ba (.inr (fun b h => (hP.2.2.2 b h).2)) rfl (cF.old) (qaY bb ?_ fun b e => ⟨cy b e, bb.ltOf e⟩) (Up.ch cE) ?_
  ·simp only [List.mem_append, List.mem_map, List.not_mem_nil, false_or, List.mem_singleton]; rintro a (⟨_, _, rfl⟩ | ⟨_, _, rfl⟩) <;> rfl
  simp only [qA, atP, C, t, A, E, ↓reduceIte, Int.reduceLT, Int.reduceLE, Int.reduceEq, and_true, true_and, or_true, true_or, or_false, false_or, and_self, List.nil_append, List.append_assoc, am]
 refine yk <| ys <| qa <| yx 3 <| yc (rE c 27) (fun t => ?_) fun t => ?_
 ·exfalso; omega
 refine ysr <| yq 3 <| yw [28] (rL c 32) (fun A => ?_) fun A => ?_
 ·exfalso; omega
 refine yz 7 <| yc (rE c 127) (fun E => ?_) fun E => ?_
 ·exfalso; omega
 refine qk (nB (nS ?_)); refine ysr <| yp 3 [] (.a (B.cs 1 4) .z) ?_; have cG : f < a1.heap.size := B.lt; have dL : d < a1.heap.size := a2.lt; obtain ⟨m, aq⟩ : ∃ X, qbC p.utf c = X := ⟨_, rfl⟩
 refine yo (yC (qdS aq p.utf c _ ay hp.u hcB) ?_); rintro _ dM ⟨dN, dO, dP, rfl, cH, cI, aa⟩; refine ⟨_, rfl, ?_⟩; have cJ := zu aw aa iZ; have cK := ax.ch aa iZ; have cL := B.ch aa id; have cM := a2.ch aa id; refine yq 8 <| yo (yT [iX p.state, uX m.1.b0, uX m.1.b1, uX m.1.b2, iX m.1.n, .string p.marks, .slice (po.map at0) pn pc, .string p.text, iX p.within] cL fun dQ cN ab => ?_); have cO := zu cJ ab (fun i hi (h : i = f) => by omega); have cP := cK.ch ab (fun b hb (e : b = f) => by have := (hP.2.2.2 b hb).2; have := I; omega); have cQ := cM.ch ab (fun (h : d = f) => by have := a0.lt; omega); have cR := cH.ch ab (fun b e (h : b = f) => by have := cI b e; have := cG; omega); refine yz 10 <| ys <| yDC [4] fun bc dR Y => ?_; have bd := zu cO Y iZ; have cS := cP.ch Y iZ; have bf := cQ.ch Y id; have bg := cR.ch Y iZ; have bh := cN.ch Y id; refine ydC (uL 0 3) [] (fun u hu => (.a (qar hu (bh.cs 0 9) id) .z)) ?_; have cT : d < bc.heap.size := bf.lt; have cU : f < bc.heap.size := bh.lt; have cV := bg.1; rw [List.length_map, Nat.mul_one] at cV; have an := qcc hp.u c; rw [aq] at an; refine yH 3 (yC (qbZ (q := none) (al := []) _ (Own.nil _ _ _) bg (fun b e h => by cases h) (by constructor <;> omega)) ?_); rintro _ dS ⟨Z, bi, bj, rfl, cW, ar, H⟩; refine ⟨_, rfl, ?_⟩; replace H := qea H; have cX : ∀ b, Z = some b → w.heap.size ≤ b := fun b e => (ar b e).elim (fun h => by cases h) (fun h => by have := zzs bd; omega); have cY := zu bd H iZ; have cZ := cS.ch H iZ
 have d0 := bf.ch H id; have d1 : ∀ b', Z = some b' → ¬ b' = d := fun b' e h => (ar b' e).elim (fun j => by cases j) (fun j => by have := cT; omega); have dT : ∀ b', Z = some b' → ¬ b' = f := fun b' e h => (ar b' e).elim (fun j => by cases j) (fun j => by have := cU; omega); refine qaq H <| yK 4 (yT [iX p.state, uX m.1.b0, uX m.1.b1, uX m.1.b2, iX m.1.n, .string p.marks, .slice (po.map at0) pn pc, .string p.text, iX p.within] d0 fun dU d2 au => ?_); have d3 := zu cY au (fun i hi (h : i = d) => by omega); have d4 := cZ.ch au (fun b hb (e : b = d) => by have := (hP.2.2.2 b hb).2; have := a4; omega); have bk := cW.ch au (fun b e (h : b = d) => d1 b e h); refine q9 <| yd [5] [] .z <| yDe (nS ?_); refine q8 (yR2 [.agg #[iX p.state, uX m.1.b0, uX m.1.b1, uX m.1.b2, iX m.1.n, .string p.marks, .slice (po.map at0) pn pc, .string p.text, iX p.within], .slice (Z.map at0) bi bj] (.a (d2.cs 0 9) .z) ?_); refine Fed.mk' (p' := (PS.mk p.state ⟨m.1.b0, m.1.b1, m.1.b2, m.1.n⟩ p.marks p.params p.text p.within)) (l := ([] ++ m.2.map acP)) po pn pc Z bi bj (.inr (fun b h => (hP.2.2.2 b h).2)) rfl (d4.old) (qaY bk ?_ fun b e => ⟨cX b e, bk.ltOf e⟩) (Up.ch d3) ?_
 ·simp only [List.mem_append, List.mem_map, List.not_mem_nil, false_or, List.mem_singleton]; rintro a ⟨_, _, rfl⟩ <;> rfl
 simp only [qA, atP, C, t, A, E, ↓reduceIte, Int.reduceLT, Int.reduceLE, Int.reduceEq, and_true, true_and, or_true, true_or, or_false, false_or, and_self, List.nil_append, List.append_assoc, aq]
theorem qif (s : Int) : (atP s).state = s := rfl
theorem feed_any {w : World} {po : Option Nat} {pn pc : Nat} {p : PS} (hP : IntsAt w .i64 po pn pc p.params (fun b => po = some b)) (c : Int) (hcB : 0 ≤ c ∧ c ≤ 255) (hU : qc9 w) (hp : p.lim) (hn8 : pn ≤ 8) : Calls Tryz.prog 34 [.agg #[iX p.state, uX p.utf.b0, uX p.utf.b1, uX p.utf.b2, iX p.utf.n, .string p.marks, .slice (po.map at0) pn pc, .string p.text, iX p.within], uX c].toArray w fun e w' => Fed w w' e po (qaz p c).1 (qaz p c).2 := by
 refine yA Tryz.func34 rfl <| ysr <| yo (yN [iX p.state, uX p.utf.b0, uX p.utf.b1, uX p.utf.b2, iX p.utf.n, .string p.marks, .slice (po.map at0) pn pc, .string p.text, iX p.within] 44 fun dq v bm dr aj R => ?_); have ds := zn bm (zm w); have ak := zu (zm w) R iZ; have bn := hP.ch R iZ; have bo := qX R hU id id; refine yo (yN [iX 0, uX 0, uX 0, uX 0, iX 0, oX, nX, oX, iX 0] 44 fun x d bp dt j I => ?_); have C := zn bp ak; have k := zu ak I iZ; have D := bn.ch I iZ; have bq := qX I bo id id; have g := aj.ch I id; refine yz 3 <| x_scope 0 ([(1, uX c), (2, pX v), (4, pX d), (5, nX)]) (fun u => (p.state = 7 ∧ c ≠ 92) ∧ Blk u v [iX 1, uX 0, uX 0, uX 0, iX 0, oX, nX, oX, iX 0] 44 ∧ Blk u d [iX 0, uX 0, uX 0, uX 0, iX 0, oX, nX, oX, iX 0] 44 ∧ Up w.heap.size w u) rfl ?_ (fun u31 br => ?_)
 ·refine ys <| x_label (nS ?_); refine ys <| qa <| ysr <| yp 4 [] (.l (g.c 0) .z) <| ye <| yc (rE p.state 0) (fun o => ?_) fun o => ?_
  ·refine ysr <| yp 2 [] (.a (g.cs 0 9) .z) <| yo (yC (qgV D c hcB bq hp) ?_); rintro _ al ⟨S, T, U, am, an, ao, rfl, bs, bt, ap⟩; refine ⟨_, rfl, ?_⟩; have du : v < x.heap.size := g.lt; have aq : d < x.heap.size := j.lt; have bu := zu k ap iZ; have bv := j.ch ap id; have bw : al.heap.size ≤ al.heap.size := Nat.le_refl _; refine yq 5 <| yo (yT [iX (qA p c).1.state, uX (qA p c).1.utf.b0, uX (qA p c).1.utf.b1, uX (qA p c).1.utf.b2, iX (qA p c).1.utf.n, .string (qA p c).1.marks, .slice (S.map at0) T U, .string (qA p c).1.text, iX (qA p c).1.within] bv fun dv bx J => ?_); have bz := zu bu J (fun i hi (h : i = d) => by omega); have bA := bs.ch J (fun b hb (e : b = d) => hb.elim (fun hb => by have := (hP.2.2.2 b hb).2; have := C; omega) (fun hb => by have := aq; omega)); have bB := bt.ch J (fun b hb (e : b = d) => by have := aq; omega); have dw := Nat.le_trans bw (zzs J); refine yz 7 <| q8 (rB (rS (qT (yR2 [.agg #[iX (qA p c).1.state, uX (qA p c).1.utf.b0, uX (qA p c).1.utf.b1, uX (qA p c).1.utf.b2, iX (qA p c).1.utf.n, .string (qA p c).1.marks, .slice (S.map at0) T U, .string (qA p c).1.text, iX (qA p c).1.within], .slice (am.map at0) an ao] (.a (bx.cs 0 9) .z) ?_)))); have G := zzs k; refine Fed.mk2 (p' := (qA p c).1) (l := (qA p c).2) S T U am an ao rfl (bA.mono fun b hb => hb.imp id fun h => ⟨by omega, by omega⟩) (bB.mono fun b h => ⟨⟨by omega, by omega⟩, h.2⟩) (Up.ch bz) ?_
   simp only [qaz, qaa, o, ↓reduceIte, Int.reduceEq, Int.reduceLE, Int.reduceLT, reduceCtorEq, sA, ne_eq]
  refine ysr <| yp 4 [] (.l (g.c 0) .z) <| ye <| yc (rE p.state 7) (fun q => ?_) fun q => ?_
  ·refine ys <| yx 2 <| yc (rE c 92) (fun f => ?_) fun f => ?_
   ·refine ysr <| yp 3 [] (.a (g.cs 0 9) (.l (g.c 8) .z)) <| yo (yC (qdO D p.within ) ?_); rintro _ ar ⟨V, W, X, au, av, aw, rfl, bC, bD, ax⟩; refine ⟨_, rfl, ?_⟩; have dx : v < x.heap.size := g.lt; have ay : d < x.heap.size := j.lt; have bE := zu k ax iZ; have bF := j.ch ax id; have bG : ar.heap.size ≤ ar.heap.size := Nat.le_refl _; refine yq 6 <| yo (yT [iX (qm p p.within).1.state, uX (qm p p.within).1.utf.b0, uX (qm p p.within).1.utf.b1, uX (qm p p.within).1.utf.b2, iX (qm p p.within).1.utf.n, .string (qm p p.within).1.marks, .slice (V.map at0) W X, .string (qm p p.within).1.text, iX (qm p p.within).1.within] bF fun dy bH K => ?_); have bI := zu bE K (fun i hi (h : i = d) => by omega); have bJ := bC.ch K (fun b hb (e : b = d) => hb.elim (fun hb => by have := (hP.2.2.2 b hb).2; have := C; omega) (fun hb => by have := ay; omega)); have bK := bD.ch K (fun b hb (e : b = d) => by have := ay; omega); have dz := Nat.le_trans bG (zzs K); refine yz 8 <| q8 (rS (rB (rS (qT (yR2 [.agg #[iX (qm p p.within).1.state, uX (qm p p.within).1.utf.b0, uX (qm p p.within).1.utf.b1, uX (qm p p.within).1.utf.b2, iX (qm p p.within).1.utf.n, .string (qm p p.within).1.marks, .slice (V.map at0) W X, .string (qm p p.within).1.text, iX (qm p p.within).1.within], .slice (au.map at0) av aw] (.a (bH.cs 0 9) .z) ?_))))); have G := zzs k; refine Fed.mk2 (p' := (qm p p.within).1) (l := (qm p p.within).2) V W X au av aw rfl (bJ.mono fun b hb => hb.imp id fun h => ⟨by omega, by omega⟩) (bK.mono fun b h => ⟨⟨by omega, by omega⟩, h.2⟩) (Up.ch bI) ?_
    simp only [qaz, qaa, o, q, f, ↓reduceIte, Int.reduceEq, Int.reduceLE, Int.reduceLT, reduceCtorEq, sA, ne_eq]
   refine yk <| ysr <| yo (yQ (qN 1 _) fun dA Y => ?_); have bL := zu k Y iZ; have bM := g.ch Y id; have bN := j.ch Y id; refine yo (yT [iX 1, uX 0, uX 0, uX 0, iX 0, oX, nX, oX, iX 0] bM fun dB bO az => ?_); have bP := zu bL az (fun i hi (h : i = v) => by omega); have bQ := bN.ch az (fun (h : d = v) => by have := aj.lt; omega); refine ye <| qa2 [1, 2, 4, 5] (f' := [(1, uX c), (2, pX v), (4, pX d), (5, nX)]) ?_; exact x_goto (qgT (gS (qhI ⟨⟨q, f⟩, bO, bQ, bP⟩)))
  refine ysr <| yp 4 [] (.l (g.c 0) .z) <| ye <| yc (rM 5 p.state) (fun f => ?_) fun f => ?_
  ·refine ysr <| yp 2 [] (.a (g.cs 0 9) .z) <| yo (yC (qgS D c (by have := hp.t; omega)) ?_); rintro _ aA ⟨Z, a0, a1, aB, aC, aD, rfl, bR, bS, aE⟩; refine ⟨_, rfl, ?_⟩; have dC : v < x.heap.size := g.lt; have aF : d < x.heap.size := j.lt; have bT := zu k aE iZ; have bU := j.ch aE id; have bV : aA.heap.size ≤ aA.heap.size := Nat.le_refl _; refine yq 5 <| yo (yT [iX (qz p c).1.state, uX (qz p c).1.utf.b0, uX (qz p c).1.utf.b1, uX (qz p c).1.utf.b2, iX (qz p c).1.utf.n, .string (qz p c).1.marks, .slice (Z.map at0) a0 a1, .string (qz p c).1.text, iX (qz p c).1.within] bU fun dD bW L => ?_); have bX := zu bT L (fun i hi (h : i = d) => by omega); have bY := bR.ch L (fun b hb (e : b = d) => hb.elim (fun hb => by have := (hP.2.2.2 b hb).2; have := C; omega) (fun hb => by have := aF; omega)); have bZ := bS.ch L (fun b hb (e : b = d) => by have := aF; omega); have dE := Nat.le_trans bV (zzs L); refine yz 7 <| q8 (rB (rS (qT (yR2 [.agg #[iX (qz p c).1.state, uX (qz p c).1.utf.b0, uX (qz p c).1.utf.b1, uX (qz p c).1.utf.b2, iX (qz p c).1.utf.n, .string (qz p c).1.marks, .slice (Z.map at0) a0 a1, .string (qz p c).1.text, iX (qz p c).1.within], .slice (aB.map at0) aC aD] (.a (bW.cs 0 9) .z) ?_)))); have G := zzs k; refine Fed.mk2 (p' := (qz p c).1) (l := (qz p c).2) Z a0 a1 aB aC aD rfl (bY.mono fun b hb => hb.imp id fun h => ⟨by omega, by omega⟩) (bZ.mono fun b h => ⟨⟨by omega, by omega⟩, h.2⟩) (Up.ch bX) ?_
   simp only [qaz, qaa, o, q, f, ↓reduceIte, Int.reduceEq, Int.reduceLE, Int.reduceLT, reduceCtorEq, sA, ne_eq]
  refine ysr <| yq 3 <| yw [40] (rE c 24) (fun r => ?_) fun r => ?_
  ·refine yz 7 <| yct <| ysr <| yo (yQ (qN 0 _) fun dF aG => ?_); have c0 := zu k aG iZ; have c1 := j.ch aG id; refine yo (yT [iX 0, uX 0, uX 0, uX 0, iX 0, oX, nX, oX, iX 0] c1 fun dG c2 c3 => ?_); have c4 := zu c0 c3 (fun i hi (h : i = d) => by omega); refine yz 3 <| q8 (rB (rS (qT (yR2 [.agg #[iX 0, uX 0, uX 0, uX 0, iX 0, oX, nX, oX, iX 0], nX] (.a (c2.cs 0 9) .z) ?_)))); refine Fed.mk' (p' := (PS.mk 0 ⟨0, 0, 0, 0⟩ ByteArray.empty [] ByteArray.empty 0)) (l := []) none 0 0 none 0 0 (.inl ⟨rfl, rfl, rfl, rfl⟩) rfl (IntsAt.nil _ _ _) (ActsAt.nil _ _) (Up.ch c4) ?_; simp only [qaz, qaa, atP, acX, o, q, f, r, ↓reduceIte, Int.reduceEq, Int.reduceLE, Int.reduceLT, reduceCtorEq, sA, ne_eq]
  refine yz 7 <| yc (rE c 26) (fun s => ?_) fun s => ?_
  ·refine ysr <| yo (yQ (qN 0 _) fun dH aH => ?_); have c5 := zu k aH iZ; have c6 := j.ch aH id; refine yo (yT [iX 0, uX 0, uX 0, uX 0, iX 0, oX, nX, oX, iX 0] c6 fun dI c7 c8 => ?_); have c9 := zu c5 c8 (fun i hi (h : i = d) => by omega); refine yz 3 <| q8 (rB (rS (qT (yR2 [.agg #[iX 0, uX 0, uX 0, uX 0, iX 0, oX, nX, oX, iX 0], nX] (.a (c7.cs 0 9) .z) ?_)))); refine Fed.mk' (p' := (PS.mk 0 ⟨0, 0, 0, 0⟩ ByteArray.empty [] ByteArray.empty 0)) (l := []) none 0 0 none 0 0 (.inl ⟨rfl, rfl, rfl, rfl⟩) rfl (IntsAt.nil _ _ _) (ActsAt.nil _ _) (Up.ch c9) ?_; simp only [qaz, qaa, atP, acX, o, q, f, r, s, ↓reduceIte, Int.reduceEq, Int.reduceLE, Int.reduceLT, reduceCtorEq, sA, ne_eq]
  refine yx 3 <| yc (rE c 27) (fun y => ?_) fun y => ?_
  ·refine ysr <| yo (yQ (qN 1 _) fun dJ aI => ?_); have ca := zu k aI iZ; have cb := j.ch aI id; refine yo (yT [iX 1, uX 0, uX 0, uX 0, iX 0, oX, nX, oX, iX 0] cb fun dK cc cd => ?_); have ce := zu ca cd (fun i hi (h : i = d) => by omega); refine yz 3 <| q8 (rB (rS (qT (yR2 [.agg #[iX 1, uX 0, uX 0, uX 0, iX 0, oX, nX, oX, iX 0], nX] (.a (cc.cs 0 9) .z) ?_)))); refine Fed.mk' (p' := (PS.mk 1 ⟨0, 0, 0, 0⟩ ByteArray.empty [] ByteArray.empty 0)) (l := []) none 0 0 none 0 0 (.inl ⟨rfl, rfl, rfl, rfl⟩) rfl (IntsAt.nil _ _ _) (ActsAt.nil _ _) (Up.ch ce) ?_; simp only [qaz, qaa, atP, acX, o, q, f, r, s, y, ↓reduceIte, Int.reduceEq, Int.reduceLE, Int.reduceLT, reduceCtorEq, sA, ne_eq]
  refine yx 3 <| yc (rL c 32) (fun A => ?_) fun A => ?_
  ·refine ysr <| yp 3 [] (.a (g.cs 0 9) .z) <| yo (yB [iX 1, rX 0, uX c, oX, nX, oX] 90 1 fun dL a2 cf dM cg a3 => ?_); have dN := zn cf k; have ci := zu k a3 iZ; have cj := D.ch a3 iZ; have ck := j.ch a3 id; refine yo (yT [iX p.state, uX p.utf.b0, uX p.utf.b1, uX p.utf.b2, iX p.utf.n, .string p.marks, .slice (po.map at0) pn pc, .string p.text, iX p.within] ck fun dO cl a4 => ?_); have aJ := zu ci a4 (fun i hi (h : i = d) => by omega); have cm := cj.ch a4 (fun b hb (e : b = d) => by have := (hP.2.2.2 b hb).2; have := C; omega); have aK := cg.ch a4 (fun (h : a2 = d) => by have := j.lt; omega); refine yz 6 <| q8 (rB (rS (qT (yR2 [.agg #[iX p.state, uX p.utf.b0, uX p.utf.b1, uX p.utf.b2, iX p.utf.n, .string p.marks, .slice (po.map at0) pn pc, .string p.text, iX p.within], .slice (some ⟨a2, 0, none⟩) 1 1] (.a (cl.cs 0 9) .z) ?_)))); refine Fed.mk' (p' := (PS.mk p.state ⟨p.utf.b0, p.utf.b1, p.utf.b2, p.utf.n⟩ p.marks p.params p.text p.within)) (l := [Ac.mk 1 0 c ByteArray.empty [] ByteArray.empty]) po pn pc (some a2) 1 1 (.inr (fun b h => (hP.2.2.2 b h).2)) rfl (cm.old) (ActsAt.one aK ⟨by have := zzs aJ; omega, aK.lt⟩ ⟨none, 0, 0, rfl, IntsAt.nil _ _ _⟩) (Up.ch aJ) ?_; simp only [qaz, qaa, atP, acX, o, q, f, r, s, y, A, ↓reduceIte, Int.reduceEq, Int.reduceLE, Int.reduceLT, reduceCtorEq, sA, ne_eq]
  refine yx 3 <| yc (rM 127 c) (fun H => ?_) fun H => ?_
  ·refine ysr <| yp 1 [] (.a (g.cs 0 9) .z) <| yo (yT [iX p.state, uX p.utf.b0, uX p.utf.b1, uX p.utf.b2, iX p.utf.n, .string p.marks, .slice (po.map at0) pn pc, .string p.text, iX p.within] j fun dP cn aL => ?_); have co := zu k aL (fun i hi (h : i = d) => by omega); have cp := D.ch aL (fun b hb (e : b = d) => by have := (hP.2.2.2 b hb).2; have := C; omega); refine yz 3 <| q8 (rB (rS (qT (yR2 [.agg #[iX p.state, uX p.utf.b0, uX p.utf.b1, uX p.utf.b2, iX p.utf.n, .string p.marks, .slice (po.map at0) pn pc, .string p.text, iX p.within], nX] (.a (cn.cs 0 9) .z) ?_)))); refine Fed.mk' (p' := (PS.mk p.state ⟨p.utf.b0, p.utf.b1, p.utf.b2, p.utf.n⟩ p.marks p.params p.text p.within)) (l := []) po pn pc none 0 0 (.inl ⟨rfl, rfl, rfl, rfl⟩) rfl (cp.old) (ActsAt.nil _ _) (Up.ch co) ?_; simp only [qaz, qaa, atP, acX, o, q, f, r, s, y, A, H, ↓reduceIte, Int.reduceEq, Int.reduceLE, Int.reduceLT, reduceCtorEq, sA, ne_eq]
  refine ysr <| yp 4 [] (.l (g.c 0) .z) <| yw [64] (rE p.state 3) (fun M => ?_) fun M => ?_
  ·refine yz 9 <| yct <| ysr <| yp 2 [] (.a (g.cs 0 9) .z) <| yo (yC (qi9 D c hcB (by have := hp.m; omega) hn8 hp.b) ?_); rintro _ aM ⟨a5, a6, a7, aN, aO, aP, rfl, cq, cr, aQ⟩; refine ⟨_, rfl, ?_⟩; have dQ : v < x.heap.size := g.lt; have aR : d < x.heap.size := j.lt; have ct := zu k aQ iZ; have cu := j.ch aQ id; have cv : aM.heap.size ≤ aM.heap.size := Nat.le_refl _; refine yq 5 <| yo (yT [iX (qaE p c).1.state, uX (qaE p c).1.utf.b0, uX (qaE p c).1.utf.b1, uX (qaE p c).1.utf.b2, iX (qaE p c).1.utf.n, .string (qaE p c).1.marks, .slice (a5.map at0) a6 a7, .string (qaE p c).1.text, iX (qaE p c).1.within] cu fun dR cw N => ?_); have cx := zu ct N (fun i hi (h : i = d) => by omega); have cy := cq.ch N (fun b hb (e : b = d) => hb.elim (fun hb => by have := (hP.2.2.2 b hb).2; have := C; omega) (fun hb => by have := aR; omega)); have cz := cr.ch N (fun b hb (e : b = d) => by have := aR; omega); have dS := Nat.le_trans cv (zzs N); refine yz 7 <| q8 (rB (rS (qT (yR2 [.agg #[iX (qaE p c).1.state, uX (qaE p c).1.utf.b0, uX (qaE p c).1.utf.b1, uX (qaE p c).1.utf.b2, iX (qaE p c).1.utf.n, .string (qaE p c).1.marks, .slice (a5.map at0) a6 a7, .string (qaE p c).1.text, iX (qaE p c).1.within], .slice (aN.map at0) aO aP] (.a (cw.cs 0 9) .z) ?_)))); have G := zzs k; refine Fed.mk2 (p' := (qaE p c).1) (l := (qaE p c).2) a5 a6 a7 aN aO aP rfl (cy.mono fun b hb => hb.imp id fun h => ⟨by omega, by omega⟩) (cz.mono fun b h => ⟨⟨by omega, by omega⟩, h.2⟩) (Up.ch cx) ?_; simp only [qaz, qaa, o, q, f, r, s, y, A, H, M, ↓reduceIte, Int.reduceEq, Int.reduceLE, Int.reduceLT, reduceCtorEq, sA, ne_eq]
  refine yp 9 [] (.l (g.c 0) .z) <| ye <| yc (rE p.state 4) (fun a8 => ?_) fun a8 => ?_
  ·refine ysr <| yp 2 [] (.a (g.cs 0 9) .z) <| yo (yC (qi9 D c hcB (by have := hp.m; omega) hn8 hp.b) ?_); rintro _ aS ⟨a9, aa, ab, aT, aU, aV, rfl, cA, cB, aW⟩; refine ⟨_, rfl, ?_⟩; have dT : v < x.heap.size := g.lt; have aX : d < x.heap.size := j.lt; have cC := zu k aW iZ; have cD := j.ch aW id; have cE : aS.heap.size ≤ aS.heap.size := Nat.le_refl _; refine yq 5 <| yo (yT [iX (qaE p c).1.state, uX (qaE p c).1.utf.b0, uX (qaE p c).1.utf.b1, uX (qaE p c).1.utf.b2, iX (qaE p c).1.utf.n, .string (qaE p c).1.marks, .slice (a9.map at0) aa ab, .string (qaE p c).1.text, iX (qaE p c).1.within] cD fun dU cF O => ?_); have cG := zu cC O (fun i hi (h : i = d) => by omega); have cH := cA.ch O (fun b hb (e : b = d) => hb.elim (fun hb => by have := (hP.2.2.2 b hb).2; have := C; omega) (fun hb => by have := aX; omega)); have cI := cB.ch O (fun b hb (e : b = d) => by have := aX; omega); have dV := Nat.le_trans cE (zzs O); refine yz 7 <| q8 (rB (rS (qT (yR2 [.agg #[iX (qaE p c).1.state, uX (qaE p c).1.utf.b0, uX (qaE p c).1.utf.b1, uX (qaE p c).1.utf.b2, iX (qaE p c).1.utf.n, .string (qaE p c).1.marks, .slice (a9.map at0) aa ab, .string (qaE p c).1.text, iX (qaE p c).1.within], .slice (aT.map at0) aU aV] (.a (cF.cs 0 9) .z) ?_)))); have G := zzs k; refine Fed.mk2 (p' := (qaE p c).1) (l := (qaE p c).2) a9 aa ab aT aU aV rfl (cH.mono fun b hb => hb.imp id fun h => ⟨by omega, by omega⟩) (cI.mono fun b h => ⟨⟨by omega, by omega⟩, h.2⟩) (Up.ch cG) ?_; simp only [qaz, qaa, o, q, f, r, s, y, A, H, M, a8, ↓reduceIte, Int.reduceEq, Int.reduceLE, Int.reduceLT, reduceCtorEq, sA, ne_eq]
  refine qk (nB (nS ?_)); refine ysr <| yp 2 [] (.a (g.cs 0 9) .z) <| yo (yC (qdP D c ) ?_); rintro _ aY ⟨ac, ad, ae, aZ, b3, b4, rfl, cJ, cK, b5⟩; refine ⟨_, rfl, ?_⟩; have dW : v < x.heap.size := g.lt; have b6 : d < x.heap.size := j.lt; have cL := zu k b5 iZ; have cM := j.ch b5 id; have cN : aY.heap.size ≤ aY.heap.size := Nat.le_refl _; refine yq 5 <| yo (yT [iX (qj p c).1.state, uX (qj p c).1.utf.b0, uX (qj p c).1.utf.b1, uX (qj p c).1.utf.b2, iX (qj p c).1.utf.n, .string (qj p c).1.marks, .slice (ac.map at0) ad ae, .string (qj p c).1.text, iX (qj p c).1.within] cM fun dX cO P => ?_); have cP := zu cL P (fun i hi (h : i = d) => by omega); have cQ := cJ.ch P (fun b hb (e : b = d) => hb.elim (fun hb => by have := (hP.2.2.2 b hb).2; have := C; omega) (fun hb => by have := b6; omega)); have cR := cK.ch P (fun b hb (e : b = d) => by have := b6; omega); have dY := Nat.le_trans cN (zzs P); refine yz 7 <| q8 (qT (yR2 [.agg #[iX (qj p c).1.state, uX (qj p c).1.utf.b0, uX (qj p c).1.utf.b1, uX (qj p c).1.utf.b2, iX (qj p c).1.utf.n, .string (qj p c).1.marks, .slice (ac.map at0) ad ae, .string (qj p c).1.text, iX (qj p c).1.within], .slice (aZ.map at0) b3 b4] (.a (cO.cs 0 9) .z) ?_)); have G := zzs k; refine Fed.mk2 (p' := (qj p c).1) (l := (qj p c).2) ac ad ae aZ b3 b4 rfl (cQ.mono fun b hb => hb.imp id fun h => ⟨by omega, by omega⟩) (cR.mono fun b h => ⟨⟨by omega, by omega⟩, h.2⟩) (Up.ch cP) ?_
  simp only [qaz, qaa, o, q, f, r, s, y, A, H, M, a8, ↓reduceIte, Int.reduceEq, Int.reduceLE, Int.reduceLT, reduceCtorEq, sA, ne_eq]
 obtain ⟨b7, cS⟩ := br; obtain ⟨B, E, F⟩ := cS; have o : p.state = 7 := b7.1; have q : c ≠ 92 := b7.2; refine ys <| yk <| ys <| qa <| ysr <| yp 4 [] (.l (B.c 0) .z) <| ye <| ycf <| ysr <| yp 4 [] (.l (B.c 0) .z) <| ye <| ycf <| ysr <| yp 4 [] (.l (B.c 0) .z) <| ye <| ycf <| ysr <| yq 3 <| yw [40] (rE c 24) (fun f => ?_) fun f => ?_
 ·refine yz 7 <| yct <| ysr <| yo (yQ (qN 0 _) fun dZ b8 => ?_); have cT := zu F b8 iZ; have cU := E.ch b8 id; refine yo (yT [iX 0, uX 0, uX 0, uX 0, iX 0, oX, nX, oX, iX 0] cU fun e0 cV cW => ?_); have cX := zu cT cW (fun i hi (h : i = d) => by omega); refine yz 3 <| q8 (rB (rS (qT (yR2 [.agg #[iX 0, uX 0, uX 0, uX 0, iX 0, oX, nX, oX, iX 0], nX] (.a (cV.cs 0 9) .z) ?_)))); refine Fed.mk' (p' := (PS.mk 0 ⟨0, 0, 0, 0⟩ ByteArray.empty [] ByteArray.empty 0)) (l := []) none 0 0 none 0 0 (.inl ⟨rfl, rfl, rfl, rfl⟩) rfl (IntsAt.nil _ _ _) (ActsAt.nil _ _) (Up.ch cX) ?_; simp only [qaz, qaa, atP, acX, o, q, f, ↓reduceIte, Int.reduceEq, Int.reduceLE, Int.reduceLT, reduceCtorEq, sA, ne_eq]
 refine yz 7 <| yc (rE c 26) (fun r => ?_) fun r => ?_
 ·refine ysr <| yo (yQ (qN 0 _) fun e1 b9 => ?_); have cY := zu F b9 iZ; have cZ := E.ch b9 id; refine yo (yT [iX 0, uX 0, uX 0, uX 0, iX 0, oX, nX, oX, iX 0] cZ fun e2 d0 d1 => ?_); have d2 := zu cY d1 (fun i hi (h : i = d) => by omega); refine yz 3 <| q8 (rB (rS (qT (yR2 [.agg #[iX 0, uX 0, uX 0, uX 0, iX 0, oX, nX, oX, iX 0], nX] (.a (d0.cs 0 9) .z) ?_)))); refine Fed.mk' (p' := (PS.mk 0 ⟨0, 0, 0, 0⟩ ByteArray.empty [] ByteArray.empty 0)) (l := []) none 0 0 none 0 0 (.inl ⟨rfl, rfl, rfl, rfl⟩) rfl (IntsAt.nil _ _ _) (ActsAt.nil _ _) (Up.ch d2) ?_; simp only [qaz, qaa, atP, acX, o, q, f, r, ↓reduceIte, Int.reduceEq, Int.reduceLE, Int.reduceLT, reduceCtorEq, sA, ne_eq]
 refine yx 3 <| yc (rE c 27) (fun s => ?_) fun s => ?_
 ·refine ysr <| yo (yQ (qN 1 _) fun e3 ba => ?_); have d3 := zu F ba iZ; have d4 := E.ch ba id; refine yo (yT [iX 1, uX 0, uX 0, uX 0, iX 0, oX, nX, oX, iX 0] d4 fun e4 d5 d6 => ?_); have d7 := zu d3 d6 (fun i hi (h : i = d) => by omega); refine yz 3 <| q8 (rB (rS (qT (yR2 [.agg #[iX 1, uX 0, uX 0, uX 0, iX 0, oX, nX, oX, iX 0], nX] (.a (d5.cs 0 9) .z) ?_)))); refine Fed.mk' (p' := (PS.mk 1 ⟨0, 0, 0, 0⟩ ByteArray.empty [] ByteArray.empty 0)) (l := []) none 0 0 none 0 0 (.inl ⟨rfl, rfl, rfl, rfl⟩) rfl (IntsAt.nil _ _ _) (ActsAt.nil _ _) (Up.ch d7) ?_; simp only [qaz, qaa, atP, acX, o, q, f, r, s, ↓reduceIte, Int.reduceEq, Int.reduceLE, Int.reduceLT, reduceCtorEq, sA, ne_eq]
 refine yx 3 <| yc (rL c 32) (fun y => ?_) fun y => ?_
 ·refine ysr <| yp 3 [] (.a (B.cs 0 9) .z) <| yo (yB [iX 1, rX 0, uX c, oX, nX, oX] 90 1 fun e5 af d8 e6 d9 bb => ?_); have e7 := zn d8 F; have da := zu F bb iZ; have db := E.ch bb id; refine yo (yT [iX 1, uX 0, uX 0, uX 0, iX 0, oX, nX, oX, iX 0] db fun e8 dc bc => ?_); have bd := zu da bc (fun i hi (h : i = d) => by omega); have bf := d9.ch bc (fun (h : af = d) => by have := E.lt; omega); refine yz 6 <| q8 (rB (rS (qT (yR2 [.agg #[iX 1, uX 0, uX 0, uX 0, iX 0, oX, nX, oX, iX 0], .slice (some ⟨af, 0, none⟩) 1 1] (.a (dc.cs 0 9) .z) ?_)))); refine Fed.mk' (p' := (PS.mk 1 ⟨0, 0, 0, 0⟩ ByteArray.empty [] ByteArray.empty 0)) (l := [Ac.mk 1 0 c ByteArray.empty [] ByteArray.empty]) none 0 0 (some af) 1 1 (.inr (fun b h => by cases h)) rfl (IntsAt.nil _ _ _) (ActsAt.one bf ⟨by have := zzs bd; omega, bf.lt⟩ ⟨none, 0, 0, rfl, IntsAt.nil _ _ _⟩) (Up.ch bd) ?_; simp only [qaz, qaa, atP, acX, o, q, f, r, s, y, ↓reduceIte, Int.reduceEq, Int.reduceLE, Int.reduceLT, reduceCtorEq, sA, ne_eq]
 refine yx 3 <| yc (rM 127 c) (fun A => ?_) fun A => ?_
 ·refine ysr <| yp 1 [] (.a (B.cs 0 9) .z) <| yo (yT [iX 1, uX 0, uX 0, uX 0, iX 0, oX, nX, oX, iX 0] E fun e9 dd de => ?_); have df := zu F de (fun i hi (h : i = d) => by omega); refine yz 3 <| q8 (rB (rS (qT (yR2 [.agg #[iX 1, uX 0, uX 0, uX 0, iX 0, oX, nX, oX, iX 0], nX] (.a (dd.cs 0 9) .z) ?_)))); refine Fed.mk' (p' := (PS.mk 1 ⟨0, 0, 0, 0⟩ ByteArray.empty [] ByteArray.empty 0)) (l := []) none 0 0 none 0 0 (.inl ⟨rfl, rfl, rfl, rfl⟩) rfl (IntsAt.nil _ _ _) (ActsAt.nil _ _) (Up.ch df) ?_; simp only [qaz, qaa, atP, acX, o, q, f, r, s, y, A, ↓reduceIte, Int.reduceEq, Int.reduceLE, Int.reduceLT, reduceCtorEq, sA, ne_eq]
 refine ysr <| yp 9 [] (.l (B.c 0) (.l (B.c 0) .z)) <| ye <| ycf <| qk (nB (nS ?_)); refine ysr <| yp 2 [] (.a (B.cs 0 9) .z) <| yo (yC (qdP (p := (atP 1)) (IntsAt.nil u31 .i64 _) c ) ?_); rintro _ bg ⟨ag, ah, ai, bh, bi, bj, rfl, dg, dh, bk⟩; refine ⟨_, rfl, ?_⟩; have ea : v < u31.heap.size := B.lt; have bl : d < u31.heap.size := E.lt; have di := zu F bk iZ; have dj := E.ch bk id; have dk : bg.heap.size ≤ bg.heap.size := Nat.le_refl _; refine yq 5 <| yo (yT [iX (qj (atP 1) c).1.state, uX (qj (atP 1) c).1.utf.b0, uX (qj (atP 1) c).1.utf.b1, uX (qj (atP 1) c).1.utf.b2, iX (qj (atP 1) c).1.utf.n, .string (qj (atP 1) c).1.marks, .slice (ag.map at0) ah ai, .string (qj (atP 1) c).1.text, iX (qj (atP 1) c).1.within] dj fun eb dl Q => ?_); have dm := zu di Q (fun i hi (h : i = d) => by omega); have dn := dg.ch Q (fun b hb (e : b = d) => hb.elim (fun hb => by cases hb) (fun hb => by have := bl; omega)); have dp := dh.ch Q (fun b hb (e : b = d) => by have := bl; omega); have ec := Nat.le_trans dk (zzs Q); refine yz 7 <| q8 (qT (yR2 [.agg #[iX (qj (atP 1) c).1.state, uX (qj (atP 1) c).1.utf.b0, uX (qj (atP 1) c).1.utf.b1, uX (qj (atP 1) c).1.utf.b2, iX (qj (atP 1) c).1.utf.n, .string (qj (atP 1) c).1.marks, .slice (ag.map at0) ah ai, .string (qj (atP 1) c).1.text, iX (qj (atP 1) c).1.within], .slice (bh.map at0) bi bj] (.a (dl.cs 0 9) .z) ?_)); have G := zzs F; refine Fed.mk2 (p' := (qj (atP 1) c).1) (l := (qj (atP 1) c).2) ag ah ai bh bi bj rfl (dn.mono fun b hb => hb.imp (fun h => by cases h) fun h => ⟨by omega, by omega⟩) (dp.mono fun b h => ⟨⟨by omega, by omega⟩, h.2⟩) (Up.ch dm) ?_
 simp only [qaz, qaa, qif, o, q, f, r, s, y, A, ↓reduceIte, Int.reduceEq, Int.reduceLE, Int.reduceLT, reduceCtorEq, sA, ne_eq]
def p10 (i : Nat) : Int := if i = 0 then 1 else if i = 1 then 10 else 100
def qhm (w : World) : Prop := ∀ i, i < 3 → w.cell? ⟨4, i, none⟩ = some (.int .u64 (p10 i))
theorem qdd {w w' : World} {B : Nat → Prop} (h : Ch B w w') (hT : qhm w) (h0 : ¬ B 4) : qhm w' := fun j hj => qF h (hT j hj) h0
def len8S : ByteArray := ⟨#[0, 1, 2, 2, 3, 3, 3, 3, 4, 4, 4, 4, 4, 4, 4, 4, 5, 5, 5, 5, 5, 5, 5, 5, 5, 5, 5, 5, 5, 5, 5, 5, 6, 6, 6, 6, 6, 6, 6, 6, 6, 6, 6, 6, 6, 6, 6, 6, 6, 6, 6, 6, 6, 6, 6, 6, 6, 6, 6, 6, 6, 6, 6, 6, 7, 7, 7, 7, 7, 7, 7, 7, 7, 7, 7, 7, 7, 7, 7, 7, 7, 7, 7, 7, 7, 7, 7, 7, 7, 7, 7, 7, 7, 7, 7, 7, 7, 7, 7, 7, 7, 7, 7, 7, 7, 7, 7, 7, 7, 7, 7, 7, 7, 7, 7, 7, 7, 7, 7, 7, 7, 7, 7, 7, 7, 7, 7, 7, 8, 8, 8, 8, 8, 8, 8, 8, 8, 8, 8, 8, 8, 8, 8, 8, 8, 8, 8, 8, 8, 8, 8, 8, 8, 8, 8, 8, 8, 8, 8, 8, 8, 8, 8, 8, 8, 8, 8, 8, 8, 8, 8, 8, 8, 8, 8, 8, 8, 8, 8, 8, 8, 8, 8, 8, 8, 8, 8, 8, 8, 8, 8, 8, 8, 8, 8, 8, 8, 8, 8, 8, 8, 8, 8, 8, 8, 8, 8, 8, 8, 8, 8, 8, 8, 8, 8, 8, 8, 8, 8, 8, 8, 8, 8, 8, 8, 8, 8, 8, 8, 8, 8, 8, 8, 8, 8, 8, 8, 8, 8, 8, 8, 8, 8, 8, 8, 8, 8, 8, 8, 8, 8, 8, 8, 8, 8, 8]⟩
def smallsS : ByteArray := ⟨#[48, 48, 48, 49, 48, 50, 48, 51, 48, 52, 48, 53, 48, 54, 48, 55, 48, 56, 48, 57, 49, 48, 49, 49, 49, 50, 49, 51, 49, 52, 49, 53, 49, 54, 49, 55, 49, 56, 49, 57, 50, 48, 50, 49, 50, 50, 50, 51, 50, 52, 50, 53, 50, 54, 50, 55, 50, 56, 50, 57, 51, 48, 51, 49, 51, 50, 51, 51, 51, 52, 51, 53, 51, 54, 51, 55, 51, 56, 51, 57, 52, 48, 52, 49, 52, 50, 52, 51, 52, 52, 52, 53, 52, 54, 52, 55, 52, 56, 52, 57, 53, 48, 53, 49, 53, 50, 53, 51, 53, 52, 53, 53, 53, 54, 53, 55, 53, 56, 53, 57, 54, 48, 54, 49, 54, 50, 54, 51, 54, 52, 54, 53, 54, 54, 54, 55, 54, 56, 54, 57, 55, 48, 55, 49, 55, 50, 55, 51, 55, 52, 55, 53, 55, 54, 55, 55, 55, 56, 55, 57, 56, 48, 56, 49, 56, 50, 56, 51, 56, 52, 56, 53, 56, 54, 56, 55, 56, 56, 56, 57, 57, 48, 57, 49, 57, 50, 57, 51, 57, 52, 57, 53, 57, 54, 57, 55, 57, 56, 57, 57]⟩
def digS : ByteArray := ⟨#[48, 49, 50, 51, 52, 53, 54, 55, 56, 57, 97, 98, 99, 100, 101, 102, 103, 104, 105, 106, 107, 108, 109, 110, 111, 112, 113, 114, 115, 116, 117, 118, 119, 120, 121, 122]⟩
def qcK (u : Int) : ByteArray := if u < 10 then digS.extract u.toNat (u + 1).toNat else smallsS.extract (u * 2).toNat (u * 2 + 2).toNat
theorem p_cell {w : World} (h : qhm w) (x : Int) (h0 : 0 ≤ x) (h1 : x ≤ 2) : w.cell? ⟨4, 0 + x.toNat * 1, none⟩ = some (.int .u64 (p10 x.toNat)) := by
 rw [Nat.zero_add, Nat.mul_one]; exact h _ (by omega)
abbrev d10 (u : Int) : Int := Int.fdiv ((0 + bt len8S u) * 78913) (2 ^ min (18 : Int).toNat (IntKind.bits .i64))
theorem d10_bd : ∀ k, k < 100 → 1 ≤ k → (0 ≤ d10 (k : Nat) ∧ d10 (k : Nat) ≤ 2) ∧ d10 (k : Nat) + (if decide (p10 (d10 (k : Nat)).toNat ≤ ((k : Nat) : Int)) = true then 1 else 0) = (if k < 10 then 1 else 2) := by decide +kernel
set_option maxRecDepth 100000 in
theorem qig (u : Int) (w : World) (h0 : 0 ≤ u) (h1 : u ≤ 255) : Calls Tryz.prog 120 [.int .u64 u].toArray w fun e w' => e = .returned (iX (0 + bt len8S u)) ∧ Ch (fun _ => False) w w' := by
 have d := qc2 len8S u; have f : len8S.size = 256 := by kernel_rfl
 have g := h1; have h := h0; refine yA Tryz.func120 rfl <| yx 1 <| ys <| yx 2 <| yc (rM 4294967296 u) (fun a => ?_) fun a => ?_
 ·exfalso; omega
 refine yk <| ys <| yx 2 <| yc (rM 65536 u) (fun b => ?_) fun b => ?_
 ·exfalso; omega
 refine yk <| ys <| yx 2 <| yc (rM 256 u) (fun c => ?_) fun c => ?_
 ·exfalso; omega
 refine yk <| ysr <| yp 7 [2] (.p (q := InR .u8 u) (in8 (by omega) (by omega)) (.i u ((len8S).size) (.q6 (bt len8S u) (.q6 (0 + (bt len8S u)) .z)))) <| ye <| q8 (yR1 (iX (0 + (bt len8S u))) ?_); exact ⟨rfl, Up.ch (zm w)⟩
theorem qgW (u : Int) (w : World) (h0 : 0 ≤ u) (h1 : u ≤ 1000) : Calls Tryz.prog 119 [iX u].toArray w fun e w' => e = .returned (iX (Int.fdiv (u * 78913) (2 ^ min (18 : Int).toNat (IntKind.bits .i64)))) ∧ Ch (fun _ => False) w w' := by
 refine yA Tryz.func119 rfl <| yx 1 <| ysr <| yp 4 [] (.q6 (u * 78913) (.p (q := 0 ≤ (18 : Int)) (by omega) .z)) <| ye <| q8 (yR1 (iX (Int.fdiv (u * 78913) (2 ^ min (18 : Int).toNat (IntKind.bits .i64)))) ?_); exact ⟨rfl, Up.ch (zm w)⟩
theorem qih (b : Bool) (w : World) : Calls Tryz.prog 121 [.bool b].toArray w fun e w' => e = .returned (iX (if b = true then 1 else 0)) ∧ Ch (fun _ => False) w w' := by
 refine yA Tryz.func121 rfl <| yx 1 <| ys <| yx 1 <| yc (rY b) (fun a => ?_) fun a => ?_
 ·refine yx 1 <| q8 (rS (yR1 (iX 1) ?_)); exact ⟨by rw [a]; rfl, Up.ch (zm w)⟩
 refine yk <| yx 1 <| q8 (yR1 (iX 0) ?_); exact ⟨by rw [a]; rfl, Up.ch (zm w)⟩
set_option maxRecDepth 100000 in
theorem nd_any (u : Int) (w : World) (hp : qhm w) (h0 : 1 ≤ u) (h1 : u ≤ 99) : Calls Tryz.prog 114 [.int .u64 u].toArray w fun e w' => e = .returned (iX (if u < 10 then 1 else 2)) ∧ Ch (fun _ => False) w w' := by
 have r := qc2 len8S u; obtain ⟨k, d, hk⟩ : ∃ k : Nat, u = (k : Int) ∧ k < 100 := ⟨u.toNat, by omega, by omega⟩
 have a := d10_bd k hk (by omega); rw [← d] at a; obtain ⟨⟨s, t⟩, f⟩ := a; refine yA Tryz.func114 rfl <| yx 1 <| ysr <| yq 1 <| yo (yQ (qig u _ (by omega) (by omega)) fun v b => ?_); have g := zu (zm w) b iZ; have j := qdd b hp id; refine yo (yQ (qgW (0 + bt len8S u) _ (by omega) (by omega)) fun x c => ?_); have m := zu g c iZ; have n := qdd c j id; refine yz 4 <| ysr <| yp 6 [] (.i (d10 u) (20) (.l (o := (0 + ((d10 u)).toNat * 1)) (p_cell n ((d10 u)) (by omega) (by omega)) .z)) <| yo (yQ (qih (decide ((p10 ((d10 u) : Int).toNat) ≤ u)) _) fun y p => ?_); have q := zu m p iZ; refine yp 9 [] (.q6 ((d10 u) + (if (decide ((p10 ((d10 u) : Int).toNat) ≤ u)) = true then 1 else 0)) .z) <| ye <| q8 (yR1 (iX ((d10 u) + (if (decide ((p10 ((d10 u) : Int).toNat) ≤ u)) = true then 1 else 0))) ?_); refine ⟨congrArg Ending.returned (congrArg (Value.int .i64) ?_), Up.ch q⟩; rw [show (if u < 10 then (1 : Int) else 2) = if k < 10 then 1 else 2 by by_cases h : k < 10 <;> simp [h] <;> omega]; exact f
set_option maxRecDepth 100000 in
theorem qii (u : Int) (w : World) (h0 : 0 ≤ u) (h1 : u ≤ 99) : Calls Tryz.prog 113 [iX u].toArray w fun e w' => e = .returned (.string (qcK u)) ∧ Ch (fun _ => False) w w' := by
 have b : smallsS.size = 200 := by kernel_rfl
 have c : digS.size = 36 := by kernel_rfl
 refine yA Tryz.func113 rfl <| yx 1 <| ys <| yx 2 <| yc (rL u 10) (fun a => ?_) fun a => ?_
 ·refine ysr <| yp 5 [] (.q6 (u + 1) (.j (u + 1) ((digS).size) (.j u (((u + 1) : Int).toNat) .z))) <| ye <| q8 (rS (yR1 (.string ((digS).extract (u : Int).toNat ((u + 1) : Int).toNat)) ?_)); refine ⟨congrArg Ending.returned (congrArg Value.string ?_), Up.ch (zm w)⟩; simp only [qcK, a, ↓reduceIte]
 refine yk <| ysr <| yp 7 [] (.q6 (u * 2) (.q6 (u * 2) (.q6 ((u * 2) + 2) (.j ((u * 2) + 2) ((smallsS).size) (.j (u * 2) ((((u * 2) + 2) : Int).toNat) .z))))) <| ye <| q8 (yR1 (.string ((smallsS).extract ((u * 2) : Int).toNat (((u * 2) + 2) : Int).toNat)) ?_); refine ⟨congrArg Ending.returned (congrArg Value.string ?_), Up.ch (zm w)⟩; simp only [qcK, a, ↓reduceIte]
theorem nd1_any (x : Int) (w : World) (hp : qhm w) (h0 : 1 ≤ x) (h1 : x ≤ 9) : Calls Tryz.prog 114 [.int .u64 x].toArray w fun e w' => e = .returned (iX 1) ∧ Ch (fun _ => False) w w' :=
  (nd_any x w hp h0 (by omega)).mono fun e w' ⟨h, h2⟩ => ⟨h.trans (by rw [if_pos (by omega)]), h2⟩
theorem nd2_any (x : Int) (w : World) (hp : qhm w) (h0 : 10 ≤ x) (h1 : x ≤ 99) : Calls Tryz.prog 114 [.int .u64 x].toArray w fun e w' => e = .returned (iX 2) ∧ Ch (fun _ => False) w w' :=
  (nd_any x w hp (by omega) h1).mono fun e w' ⟨h, h2⟩ => ⟨h.trans (by rw [if_neg (by omega)]), h2⟩
set_option maxRecDepth 100000 in
theorem fb1_any (b : Nat) (x : Int) (w : World) (h0 : 1 ≤ x) (h1 : x ≤ 9) (hb : Blk w b [uX 0, uX 0, uX 0, uX 0, uX 0, uX 0, uX 0, uX 0, uX 0, uX 0, uX 0, uX 0, uX 0, uX 0, uX 0, uX 0, uX 0, uX 0, uX 0, uX 0, uX 0, uX 0, uX 0, uX 0] 163) : Calls Tryz.prog 115 [.slice (some ⟨b, 1, none⟩) 1 23, .int .u64 x].toArray w fun e w' => e = .returned (.tuple #[]) ∧ Blk w' b [uX 0, uX (48 + x), uX 0, uX 0, uX 0, uX 0, uX 0, uX 0, uX 0, uX 0, uX 0, uX 0, uX 0, uX 0, uX 0, uX 0, uX 0, uX 0, uX 0, uX 0, uX 0, uX 0, uX 0, uX 0] 163 ∧ Ch (· = b) w w' := by
 have l : smallsS.size = 200 := by kernel_rfl
 refine yA Tryz.func115 rfl <| yx 3 <| ys <| qa <| qa2 [0, 1, 4] (f' := [(0, .slice (some ⟨b, 1, none⟩) 1 23), (1, .int .u64 x), (4, iX 1)]) <| qG (σ := Nat) (fun k => [(0, .slice (some ⟨b, 1, none⟩) 1 23), (1, .int .u64 x), (4, iX 1)]) (fun k v => Blk v b [uX 0, uX 0, uX 0, uX 0, uX 0, uX 0, uX 0, uX 0, uX 0, uX 0, uX 0, uX 0, uX 0, uX 0, uX 0, uX 0, uX 0, uX 0, uX 0, uX 0, uX 0, uX 0, uX 0, uX 0] 163 ∧ Ch (fun _ => False) w v) (fun k => k) 0 rfl ?_ ?_
 ·exact ⟨hb, Ch.refl _ _⟩
 intro k m a n o; obtain ⟨c, d⟩ := a; have f := zt (Ch.refl (· = b) w) d eZ; refine ys <| yx 2 <| ycf <| qv (eS (qe (qb (nS ?_)))); refine ysr <| yp 3 [1] (.p (q := InR .u32 x) (qdy (by omega) (by omega)) .z) <| ye <| ys <| yx 2 <| ycf <| yk <| ys <| yx 2 <| ycf <| yk <| yx 2 <| yct <| q7 <| yp 5 [2, 3] (.p (q := InR .u32 (48 + x)) (qdy (by omega) (by omega)) (.p (q := InR .u8 (48 + x)) (in8 (by omega) (by omega)) (.i 0 (1) .z))) <| yo (yT [uX 0, uX (48 + x), uX 0, uX 0, uX 0, uX 0, uX 0, uX 0, uX 0, uX 0, uX 0, uX 0, uX 0, uX 0, uX 0, uX 0, uX 0, uX 0, uX 0, uX 0, uX 0, uX 0, uX 0, uX 0] c fun r g h => ?_); have j := zt f h iZ; refine yE (qB ?_); exact ⟨rfl, g, j⟩
set_option maxRecDepth 100000 in
theorem fmt1_any (n : Int) (w : World) (hp : qhm w) (h0 : 1 ≤ -n) (h1 : -n ≤ 9) : Calls Tryz.prog 102 [iX n, iX 10].toArray w fun e w' => e = .returned (.string (qD [45, 48 + (-n)])) ∧ Ch (fun _ => False) w w' := by
 have hx : (IntKind.wrap .u64 (0 - (IntKind.wrap .u64 n))) = -n := by simp [IntKind.wrap, IntKind.bits, IntKind.signed]; omega
 refine yA Tryz.func102 rfl <| yx 1 <| ys <| yx 2 <| yct <| ys <| ysr <| yq 3 <| yw [14] (rM 0 n) (fun d => ?_) fun d => ?_
 ·exfalso; omega
 refine yz 6 <| ycf <| yk <| ysr <| yo (yN [uX 0, uX 0, uX 0, uX 0, uX 0, uX 0, uX 0, uX 0, uX 0, uX 0, uX 0, uX 0, uX 0, uX 0, uX 0, uX 0, uX 0, uX 0, uX 0, uX 0, uX 0, uX 0, uX 0, uX 0] 163 fun C a f D g b => ?_); have E := zn f (zm w); have k := zu (zm w) b iZ; have l := qdd b hp id; refine ye <| yx 3 <| ys <| yx 2 <| yc (rL n 0) (fun m => ?_) fun m => ?_
 ·refine q7 <| yz 3 <| ysr <| yq 1 <| yo (yQ (nd1_any (IntKind.wrap .u64 (0 - (IntKind.wrap .u64 n))) _ l (by omega) (by omega)) fun F c => ?_); have o := zu k c iZ; have s := g.ch c id; refine yz 3 <| ysr <| yp 4 [2] (.q6 2 (.j 2 (24) (.j 1 (2) (.p (q := 1 < 24) (by omega) .z)))) <| yo (yQ (fb1_any a (IntKind.wrap .u64 (0 - (IntKind.wrap .u64 n))) _ (by omega) (by omega) s) ?_); rintro G ⟨t, u⟩; have v := zu o u (fun i hi (h : i = a) => by omega); refine ye <| ys <| yx 2 <| yc (rL n 0) (fun x => ?_) fun x => ?_
  ·refine ysr <| yp 1 [] (.i 0 (24) .z) <| yo (yT [uX 45, uX (48 + (IntKind.wrap .u64 (0 - (IntKind.wrap .u64 n)))), uX 0, uX 0, uX 0, uX 0, uX 0, uX 0, uX 0, uX 0, uX 0, uX 0, uX 0, uX 0, uX 0, uX 0, uX 0, uX 0, uX 0, uX 0, uX 0, uX 0, uX 0, uX 0] t fun H y A => ?_); have B := zu v A (fun i hi (h : i = a) => by omega); refine ye <| ysr <| yp 3 [] (.q6 2 (.j 2 (24) .z)) <| yo (qco (some ⟨a, 0, none⟩) (2 : Int).toNat 24 [45, (48 + (IntKind.wrap .u64 (0 - (IntKind.wrap .u64 n))))] (some 39) (by kernel_rfl) (Rd.pre (ys := [uX 45, uX (48 + (IntKind.wrap .u64 (0 - (IntKind.wrap .u64 n))))]) (r := [uX 0, uX 0, uX 0, uX 0, uX 0, uX 0, uX 0, uX 0, uX 0, uX 0, uX 0, uX 0, uX 0, uX 0, uX 0, uX 0, uX 0, uX 0, uX 0, uX 0, uX 0, uX 0]) y) rfl ?_); refine yz 5 <| q8 (rS (rS (yR1 (.string (qD [45, (48 + (IntKind.wrap .u64 (0 - (IntKind.wrap .u64 n))))])) ?_))); refine ⟨?_, Up.ch B⟩; rw [hx]
  exfalso; omega
 exfalso; omega
set_option maxRecDepth 100000 in
theorem fb2_any (b : Nat) (x : Int) (w : World) (h0 : 10 ≤ x) (h1 : x ≤ 99) (hb : Blk w b [uX 0, uX 0, uX 0, uX 0, uX 0, uX 0, uX 0, uX 0, uX 0, uX 0, uX 0, uX 0, uX 0, uX 0, uX 0, uX 0, uX 0, uX 0, uX 0, uX 0, uX 0, uX 0, uX 0, uX 0] 163) : Calls Tryz.prog 115 [.slice (some ⟨b, 1, none⟩) 2 23, .int .u64 x].toArray w fun e w' => e = .returned (.tuple #[]) ∧ Blk w' b [uX 0, uX (bt smallsS ((x % 100) * 2)), uX (bt smallsS (((x % 100) * 2) + 1)), uX 0, uX 0, uX 0, uX 0, uX 0, uX 0, uX 0, uX 0, uX 0, uX 0, uX 0, uX 0, uX 0, uX 0, uX 0, uX 0, uX 0, uX 0, uX 0, uX 0, uX 0] 163 ∧ Ch (· = b) w w' := by
 have t : smallsS.size = 200 := by kernel_rfl
 refine yA Tryz.func115 rfl <| yx 3 <| ys <| qa <| qa2 [0, 1, 4] (f' := [(0, .slice (some ⟨b, 1, none⟩) 2 23), (1, .int .u64 x), (4, iX 2)]) <| qG (σ := Nat) (fun k => [(0, .slice (some ⟨b, 1, none⟩) 2 23), (1, .int .u64 x), (4, iX 2)]) (fun k v => Blk v b [uX 0, uX 0, uX 0, uX 0, uX 0, uX 0, uX 0, uX 0, uX 0, uX 0, uX 0, uX 0, uX 0, uX 0, uX 0, uX 0, uX 0, uX 0, uX 0, uX 0, uX 0, uX 0, uX 0, uX 0] 163 ∧ Ch (fun _ => False) w v) (fun k => k) 0 rfl ?_ ?_
 ·exact ⟨hb, Ch.refl _ _⟩
 intro k u c y A; obtain ⟨d, f⟩ := c; have g := zt (Ch.refl (· = b) w) f eZ; refine ys <| yx 2 <| ycf <| qv (eS (qe (qb (nS ?_)))); refine ysr <| yp 3 [1] (.p (q := InR .u32 x) (qdy (by omega) (by omega)) .z) <| ye <| ys <| yx 2 <| ycf <| yk <| ys <| yx 2 <| yct <| ysr ?_; refine yp 4 [2] (.p (q := 0 ≤ (x : Int) ∧ 0 < (100 : Int)) (by constructor <;> omega) (.p (q := InR .u32 ((x % 100) * 2)) (qdy (by omega) (by omega)) .z)) ?_; refine ye <| ysr ?_; refine yp 3 [] (.p (q := 0 ≤ (x : Int) ∧ 0 < (100 : Int)) (by constructor <;> omega) (.p (q := InR .u32 (x / 100)) (qdy (by omega) (by omega)) .z)) ?_; refine ye <| ys <| yD [12, 14] fun B C a => ?_; have h := zt g a eZ; have j := d.ch a id; refine ydT (uL 0 12) [7] rfl (fun _ => (.q6 1 (.q6 0 (.p (q := InR .u32 (((x % 100) * 2) + 1)) (qdy (by omega) (by omega)) (.i (((x % 100) * 2) + 1) ((smallsS).size) (.i ((x % 100) * 2) ((smallsS).size) (.i 1 (2) .z))))))) <| yK 12 (yT [uX 0, uX 0, uX (bt smallsS (((x % 100) * 2) + 1)), uX 0, uX 0, uX 0, uX 0, uX 0, uX 0, uX 0, uX 0, uX 0, uX 0, uX 0, uX 0, uX 0, uX 0, uX 0, uX 0, uX 0, uX 0, uX 0, uX 0, uX 0] j fun D l m => ?_); have n := zt h m iZ; refine q9 <| yd [13] [] (.i 0 (2) .z) <| yK 14 (yT [uX 0, uX (bt smallsS ((x % 100) * 2)), uX (bt smallsS (((x % 100) * 2) + 1)), uX 0, uX 0, uX 0, uX 0, uX 0, uX 0, uX 0, uX 0, uX 0, uX 0, uX 0, uX 0, uX 0, uX 0, uX 0, uX 0, uX 0, uX 0, uX 0, uX 0, uX 0] l fun E o r => ?_); have s := zt n r iZ; refine q9 <| yDe (nS ?_)
 refine q7 <| yp 3 [] (.q6 0 .z) <| ye <| yx 2 <| ycf <| qk (qB ?_); exact ⟨rfl, o, s⟩
set_option maxRecDepth 100000 in
theorem fmt2_any (n : Int) (w : World) (hp : qhm w) (h0 : 10 ≤ -n) (h1 : -n ≤ 99) : Calls Tryz.prog 102 [iX n, iX 10].toArray w fun e w' => e = .returned (.string (qD [45, bt smallsS (((-n) % 100) * 2), bt smallsS ((((-n) % 100) * 2) + 1)])) ∧ Ch (fun _ => False) w w' := by
 have hx : (IntKind.wrap .u64 (0 - (IntKind.wrap .u64 n))) = -n := by simp [IntKind.wrap, IntKind.bits, IntKind.signed]; omega
 refine yA Tryz.func102 rfl <| yx 1 <| ys <| yx 2 <| yct <| ys <| ysr <| yq 3 <| yw [14] (rM 0 n) (fun d => ?_) fun d => ?_
 ·exfalso; omega
 refine yz 6 <| ycf <| yk <| ysr <| yo (yN [uX 0, uX 0, uX 0, uX 0, uX 0, uX 0, uX 0, uX 0, uX 0, uX 0, uX 0, uX 0, uX 0, uX 0, uX 0, uX 0, uX 0, uX 0, uX 0, uX 0, uX 0, uX 0, uX 0, uX 0] 163 fun C a f D g b => ?_); have E := zn f (zm w); have k := zu (zm w) b iZ; have l := qdd b hp id; refine ye <| yx 3 <| ys <| yx 2 <| yc (rL n 0) (fun m => ?_) fun m => ?_
 ·refine q7 <| yz 3 <| ysr <| yq 1 <| yo (yQ (nd2_any (IntKind.wrap .u64 (0 - (IntKind.wrap .u64 n))) _ l (by omega) (by omega)) fun F c => ?_); have o := zu k c iZ; have s := g.ch c id; refine yz 3 <| ysr <| yp 4 [2] (.q6 3 (.j 3 (24) (.j 1 (3) (.p (q := 1 < 24) (by omega) .z)))) <| yo (yQ (fb2_any a (IntKind.wrap .u64 (0 - (IntKind.wrap .u64 n))) _ (by omega) (by omega) s) ?_); rintro G ⟨t, u⟩; have v := zu o u (fun i hi (h : i = a) => by omega); refine ye <| ys <| yx 2 <| yc (rL n 0) (fun x => ?_) fun x => ?_
  ·refine ysr <| yp 1 [] (.i 0 (24) .z) <| yo (yT [uX 45, uX (bt smallsS (((IntKind.wrap .u64 (0 - (IntKind.wrap .u64 n))) % 100) * 2)), uX (bt smallsS ((((IntKind.wrap .u64 (0 - (IntKind.wrap .u64 n))) % 100) * 2) + 1)), uX 0, uX 0, uX 0, uX 0, uX 0, uX 0, uX 0, uX 0, uX 0, uX 0, uX 0, uX 0, uX 0, uX 0, uX 0, uX 0, uX 0, uX 0, uX 0, uX 0, uX 0] t fun H y A => ?_); have B := zu v A (fun i hi (h : i = a) => by omega); refine ye <| ysr <| yp 3 [] (.q6 3 (.j 3 (24) .z)) <| yo (qco (some ⟨a, 0, none⟩) (3 : Int).toNat 24 [45, (bt smallsS (((IntKind.wrap .u64 (0 - (IntKind.wrap .u64 n))) % 100) * 2)), (bt smallsS ((((IntKind.wrap .u64 (0 - (IntKind.wrap .u64 n))) % 100) * 2) + 1))] (some 39) (by kernel_rfl) (Rd.pre (ys := [uX 45, uX (bt smallsS (((IntKind.wrap .u64 (0 - (IntKind.wrap .u64 n))) % 100) * 2)), uX (bt smallsS ((((IntKind.wrap .u64 (0 - (IntKind.wrap .u64 n))) % 100) * 2) + 1))]) (r := [uX 0, uX 0, uX 0, uX 0, uX 0, uX 0, uX 0, uX 0, uX 0, uX 0, uX 0, uX 0, uX 0, uX 0, uX 0, uX 0, uX 0, uX 0, uX 0, uX 0, uX 0]) y) rfl ?_); refine yz 5 <| q8 (rS (rS (yR1 (.string (qD [45, (bt smallsS (((IntKind.wrap .u64 (0 - (IntKind.wrap .u64 n))) % 100) * 2)), (bt smallsS ((((IntKind.wrap .u64 (0 - (IntKind.wrap .u64 n))) % 100) * 2) + 1))])) ?_))); refine ⟨?_, Up.ch B⟩; rw [hx]
  exfalso; omega
 exfalso; omega
set_option maxRecDepth 100000 in
theorem fmt0_any (n : Int) (w : World) (h0 : 0 ≤ n) (h1 : n ≤ 99) : Calls Tryz.prog 102 [iX n, iX 10].toArray w fun e w' => e = .returned (.string (qcK n)) ∧ Ch (fun _ => False) w w' := by
 refine yA Tryz.func102 rfl <| yx 1 <| ys <| yx 2 <| yct <| ys <| ysr <| yq 3 <| yw [14] (rM 0 n) (fun a => ?_) fun a => ?_
 ·refine yz 6 <| yc (rL n 100) (fun b => ?_) fun b => ?_
  ·refine ysr <| yq 1 <| yo (yQ (qii n _ h0 h1) fun f c => ?_); have d := zu (zm w) c iZ; refine yz 3 <| q8 (rS (rS (yR1 (.string (qcK n)) ?_))); exact ⟨rfl, Up.ch d⟩
  exfalso; omega
 exfalso; omega
def qa1 (n : Int) : ByteArray := if 0 ≤ n then qcK n else if -9 ≤ n then qD [45, 48 + (-n)] else qD [45, bt smallsS (((-n) % 100) * 2), bt smallsS ((((-n) % 100) * 2) + 1)]
theorem fmt_any (n : Int) (w : World) (hp : qhm w) (h0 : -99 ≤ n) (h1 : n ≤ 99) : Calls Tryz.prog 102 [iX n, iX 10].toArray w fun e w' => e = .returned (.string (qa1 n)) ∧ Ch (fun _ => False) w w' := by
 unfold qa1; by_cases h : 0 ≤ n
 ·rw [if_pos h]; exact fmt0_any n w h h1
 rw [if_neg h]; by_cases a : -9 ≤ n
 ·rw [if_pos a]; exact fmt1_any n w hp (by omega) (by omega)
 rw [if_neg a]; exact fmt2_any n w hp (by omega) (by omega)
theorem qij (n : Int) (w : World) (hp : qhm w) (h0 : -99 ≤ n) (h1 : n ≤ 99) : Calls Tryz.prog 87 [iX n].toArray w fun e w' => e = .returned (.string (qa1 n)) ∧ Ch (fun _ => False) w w' := by
 refine yA Tryz.func87 rfl <| yx 1 <| ysr <| yq 1 <| yo (yQ (fmt_any n _ hp h0 h1) fun c a => ?_); have b := zu (zm w) a iZ; refine yz 3 <| q8 (yR1 (.string (qa1 n)) ?_); exact ⟨rfl, Up.ch b⟩
theorem qb6 (n : Int) (w : World) (hp : qhm w) (h0 : -99 ≤ n) (h1 : n ≤ 99) : Calls Tryz.prog 65 [iX n].toArray w fun e w' => e = .returned (.string (qa1 n)) ∧ Ch (fun _ => False) w w' := by
 refine yA Tryz.func65 rfl <| yx 1 <| ysr <| yq 1 <| yo (yQ (qij n _ hp h0 h1) fun c a => ?_); have b := zu (zm w) a iZ; refine yz 3 <| q8 (yR1 (.string (qa1 n)) ?_); exact ⟨rfl, Up.ch b⟩
structure LT (w : World) : Prop where
 tb : qR w
 ut : qc9 w
 pt : qhm w
theorem qq {w w' : World} {B : Nat → Prop} (h : Ch B w w') (hT : LT w) (hB : ∀ b, B b → gTop ≤ b) : LT w' :=
 have k : ∀ b, b < gTop → ¬ B b := fun b hb h => by have := hB b h; omega
 ⟨qd h hT.tb (k _ g_lt.1) (k _ g_lt.2), qX h hT.ut (k _ u_lt.1) (k _ u_lt.2), qdd h hT.pt (k _ (by decide))⟩
def qcd (T : TS) (s : ByteArray) : TS := if ((T.reply.size : Nat) : Int) + ((s.size : Nat) : Int) ≤ 400 then { T with reply := T.reply ++ s } else T
def qce (T : TS) : ByteArray := (qa1 ((if T.origin = true then T.cursor.y - T.top else T.cursor.y) + 1) ++ ⟨#[59]⟩) ++ qa1 (T.cursor.x + 1)
def qbv (T : TS) (c k : Int) : TS :=
 if c = 103 ∧ k = 0 then { T with tabs := fun i => if i = T.cursor.x.toNat then false else T.tabs i }
 else if c = 103 ∧ k = 3 then { T with tabs := fun _ => false }
 else if (c = 104 ∨ c = 108) ∧ k = 4 then { T with insert := ((c : Int) == 104) }
 else if c = 110 ∧ k = 5 then qcd T ⟨#[27, 91, 48, 110]⟩
 else if c = 110 ∧ k = 6 then qcd T ((⟨#[27, 91]⟩ ++ qce T) ++ ⟨#[82]⟩)
 else if c = 99 ∧ k = 0 then qcd T ⟨#[27, 91, 63, 54, 99]⟩
 else T
def qbu (T : TS) (y a b : Int) (s : Sty) : TS := { T with grid := qb3 T.grid y a b s }
def qap (T : TS) (k x y : Int) (s : Sty) (i : Int) : TS :=
 if k = 2 ∨ (k = 0 ∧ y < i) ∨ (k = 1 ∧ i < y) then qbu T i 0 T.grid.w s
 else if k = 0 ∧ i = y then qbu T i x T.grid.w s
 else if k = 1 ∧ i = y then qbu T i 0 (x + 1) s
 else T
def qcL (T : TS) (k x y : Int) (s : Sty) (a : Int) : Nat → TS
 | 0 => T
 | j + 1 => qap (qcL T k x y s a j) k x y s (a + (j : Int))
def qdT (T : TS) (k a b : Int) : TS := qcL T k T.cursor.x T.cursor.y T.cursor.sty a (b - a).toNat
def qat (T : TS) (c n : Int) (l : List Int) : TS :=
 if c = 64 then { T with grid := qeT T.grid T.cursor.x T.cursor.y n T.cursor.sty }
 else if c = 80 then { T with grid := qfD T.grid T.cursor.x T.cursor.y n T.cursor.sty }
 else if c = 88 then { T with grid := qb3 T.grid T.cursor.y T.cursor.x (T.cursor.x + n) T.cursor.sty }
 else if c = 75 then qdT T (qa4 l) T.cursor.y (T.cursor.y + 1)
 else if c = 74 then (if qa4 l = 3 then qdT { T with back := [] } (qa4 l) 0 T.grid.h else qdT T (qa4 l) 0 T.grid.h)
 else if c = 76 then (if T.top ≤ T.cursor.y ∧ T.cursor.y < T.bot then { T with grid := qej T.grid T.cursor.y T.bot n T.cursor.sty } else T)
 else if c = 77 then (if T.top ≤ T.cursor.y ∧ T.cursor.y < T.bot then { T with grid := upG T.grid T.cursor.y T.bot n T.cursor.sty } else T)
 else if c = 83 then qaL T n
 else if c = 84 then { T with grid := qej T.grid T.top T.bot n T.cursor.sty }
 else qbv T c (qa4 l)
def qU (T : TS) (c : Int) (l : List Int) : TS :=
 if c = 65 then qbW T T.cursor.x (max (T.cursor.y - qh l 0) (if T.top ≤ T.cursor.y then T.top else 0))
 else if c = 66 ∨ c = 101 then qbW T T.cursor.x (min (T.cursor.y + qh l 0) ((if T.cursor.y < T.bot then T.bot else T.grid.h) - 1))
 else if c = 67 ∨ c = 97 then qbW T (T.cursor.x + qh l 0) T.cursor.y
 else if c = 68 then qbW T (T.cursor.x - qh l 0) T.cursor.y
 else if c = 71 ∨ c = 96 then qbW T (qh l 0 - 1) T.cursor.y
 else if c = 100 then qcN T (T.cursor.x + 1) (qh l 0)
 else if c = 72 ∨ c = 102 then qcN T (qh l 1) (qh l 0)
 else if c = 109 then { T with cursor := ⟨T.cursor.x, T.cursor.y, T.cursor.late, qbN T.cursor.sty l⟩ }
 else if c = 114 then
  (if qh l 0 < (if 1 < ((l.length : Nat) : Int) ∧ 0 < l.getD 1 0 then min (l.getD 1 0) T.grid.h else T.grid.h) then
   qcN { T with top := qh l 0 - 1, bot := (if 1 < ((l.length : Nat) : Int) ∧ 0 < l.getD 1 0 then min (l.getD 1 0) T.grid.h else T.grid.h) } 1 1 else T)
 else qat T c (qh l 0) l
def qcy (G : Gr) : Nat → Gr
 | 0 => G
 | k + 1 => qb3 (qcy G k) (k : Int) 0 (qcy G k).w qbU
def qik (T : TS) (b : Bool) : TS :=
 if (b == T.alt) = true then T
 else if b = true then { T with alt := b, grid := qcy T.other T.other.h.toNat, other := T.grid, cursor := T.cursor, away := T.cursor }
 else { T with alt := b, grid := T.other, other := T.grid, cursor := T.away, away := T.cursor }
def qaA (T : TS) (n : Int) (b : Bool) : TS :=
 if n = 6 then qcN { T with origin := b } 1 1
 else if n = 7 then { T with wrap := b, cursor := ⟨T.cursor.x, T.cursor.y, T.cursor.late && b, T.cursor.sty⟩ }
 else if n = 25 then { T with hidden := !b }
 else if n = 1049 then qik T b
 else T
def qhn (T : TS) (a : Ac) : TS :=
 if (a.marks.toList == ByteArray.empty.toList) = true then qU T a.last a.params
 else if (a.marks.toList == (⟨#[63]⟩ : ByteArray).toList) = true ∧ (a.last = 104 ∨ a.last = 108) then a.params.foldl (fun T n => qaA T n ((a.last : Int) == 104)) T
 else T
def qfM (k : Nat) (i : Nat) : Bool := decide (i % 8 = 0 ∧ 8 ≤ i ∧ i < 8 + 8 * k)
def startT (T : TS) (w h : Int) : TS :=
 {grid := qcW w h, other := qcW w h, cursor := cur0, saved := cur0, away := cur0, top := 0, bot := qp h, tabs := qfM 7, wrap := true, origin := false, insert := false, hidden := false, draw0 := false, draw1 := false, shift := false, alt := false, title := ByteArray.empty, back := [], parser := T.parser, reply := T.reply }
def qdU (T : TS) (a : Ac) : TS :=
 if (a.marks.toList == (⟨#[40]⟩ : ByteArray).toList) = true then
  (if a.last = 48 ∨ a.last = 66 then { T with draw0 := ((a.last : Int) == 48) } else T)
 else if (a.marks.toList == (⟨#[41]⟩ : ByteArray).toList) = true then
  (if a.last = 48 ∨ a.last = 66 then { T with draw1 := ((a.last : Int) == 48) } else T)
 else if (a.marks.toList == ByteArray.empty.toList) = false then T
 else if a.last = 55 then { T with saved := T.cursor }
 else if a.last = 56 then { T with cursor := T.saved }
 else if a.last = 68 then qal (qay T) false
 else if a.last = 69 then qbW (qay T) 0 (qay T).cursor.y
 else if a.last = 77 then qal (upT T) false
 else if a.last = 72 then { T with tabs := fun i => if i = T.cursor.x.toNat then true else T.tabs i }
 else if a.last = 99 then startT T T.grid.w T.grid.h
 else T
def qho (T : TS) (a : Ac) : TS :=
 if 2 ≤ ((a.text.size : Nat) : Int) ∧ ((((a.text).extract 0 (2 : Int).toNat).toList == (⟨#[48, 59]⟩ : ByteArray).toList) = true ∨ (((a.text).extract 0 (2 : Int).toNat).toList == (⟨#[50, 59]⟩ : ByteArray).toList) = true) then { T with title := (a.text).extract (2 : Int).toNat (a.text).size } else T
def qcz (T : TS) (a : Ac) : TS :=
 if a.kind = 0 then qd8 T a.rune
 else if a.kind = 1 then qbX T a.last
 else if a.kind = 2 then qdU T a
 else if a.kind = 3 then qhn T a
 else if a.kind = 4 then qho T a
 else T
section
variable {W H : Int} {T : TS}
theorem Lim.flags (h : Lim W H T) {T' : TS} (e1 : T'.grid = T.grid) (e2 : T'.other = T.other) (e3 : T'.cursor = T.cursor) (e4 : T'.saved = T.saved) (e5 : T'.away = T.away) (e6 : T'.top = T.top) (e7 : T'.bot = T.bot) (e8 : T'.back = T.back) (e9 : T'.reply = T.reply) : Lim W H T' :=
 ⟨h.wb, h.hb, by rw [e1]; exact h.g1, by rw [e2]; exact h.g2, by rw [e3]; exact h.cu, by rw [e4]; exact h.sa, by rw [e5]; exact h.aw, by rw [e6, e7]; exact h.tb, by rw [e8]; exact h.bk, by rw [e9]; exact h.rp⟩
theorem TermIn.swap {w w' : World} {t g o : Nat} {ba : Option Addr} {bn bc : Nat} {pa : Option Addr} {pn pc : Nat} {T T' : TS} {F F1 F2 FB FP : Nat → Prop} (h : TermIn w t g o ba bn bc pa pn pc T F F1 F2 FB FP) (hc : Ch (fun j => j = t) w w')
  (hb : Blk w' t (T'.vals o g (.slice ba bn bc) (.slice pa pn pc)) qbo) (hg : T'.grid = T.other) (ho : T'.other = T.grid) (hk : T'.back = T.back) (hp : T'.parser.params = T.parser.params) : TermIn w' t o g ba bn bc pa pn pc T' F F2 F1 FB FP := by
 obtain ⟨rows, hL, hl⟩ := h.bk
 exact
 {blk := hb
  g1 := by rw [hg]; exact h.g2.ch hc fun b hb e => h.t2 (e ▸ hb)
  g2 := by rw [ho]; exact h.g1.ch hc fun b hb e => h.t1 (e ▸ hb)
  bk := ⟨rows, hL.ch hc fun b hb e => h.tB (e ▸ hb), by rw [hk]; exact hl⟩
  bcap := h.bcap
  ps := by rw [hp]; exact ⟨h.ps.1.ch hc fun ad e e2 => h.tP (e2 ▸ h.ps.2.2.2 ad e), h.ps.2⟩
  pz := h.pz
  bz := h.bz
  t1 := h.t2, t2 := h.t1, tB := h.tB, tP := h.tP
  a12 := fun b h1 h2 => h.a12 b h2 h1
  a1B := h.a2B, a2B := h.a1B, a1P := h.a2P, a2P := h.a1P
  inF := ⟨h.inF.1, h.inF.2.2.1, h.inF.2.1, h.inF.2.2.2.1, h.inF.2.2.2.2⟩
  lt := fun b hb => Nat.lt_of_lt_of_le (h.lt b hb) hc.size
  hi := h.hi }
def qer (T : TS) (k : Nat) : TS := { T with grid := qcy T.grid k }
theorem TermIn.nilBack {w w' : World} {t g o : Nat} {ba : Option Addr} {bn bc : Nat} {pa : Option Addr} {pn pc : Nat} {T : TS} {F F1 F2 FB FP : Nat → Prop} (h : TermIn w t g o ba bn bc pa pn pc T F F1 F2 FB FP) (hc : Ch (fun j => j = t) w w')
  (hb : Blk w' t (({ T with back := [] } : TS).vals g o (.slice none 0 0) (.slice pa pn pc)) qbo) : TermIn w' t g o none 0 0 pa pn pc ({ T with back := [] } : TS) F F1 F2 FB FP :=
 {h with
  blk := hb
  g1 := h.g1.ch hc fun b hb e => h.t1 (e ▸ hb)
  g2 := h.g2.ch hc fun b hb e => h.t2 (e ▸ hb)
  bk := ⟨[], ⟨Rd.nil _ _, rfl, (fun x hx => by cases hx), (fun x hx => by cases hx), (fun ad e => by cases e), fun b hb => Nat.lt_of_lt_of_le (h.lt b (h.inF.2.2.2.1 b hb)) hc.size, fun b hb => h.hi b (h.inF.2.2.2.1 b hb)⟩, rfl⟩
  bcap := ⟨Nat.le_refl _, fun _ => rfl⟩
  bz := .inl rfl
  ps := ⟨h.ps.1.ch hc fun ad e e2 => h.tP (e2 ▸ h.ps.2.2.2 ad e), h.ps.2⟩
  lt := fun b hb => Nat.lt_of_lt_of_le (h.lt b hb) hc.size }
theorem qo {P : TS → Prop} {c : Prop} [Decidable c] {a b : TS} (h1 : c → P a) (h2 : ¬ c → P b) : P (if c then a else b) := by
 by_cases h : c
 ·rw [if_pos h]; exact h1 h
 ·rw [if_neg h]; exact h2 h
theorem qde (h : Lim W H T) (s : ByteArray) : Lim W H (qcd T s) := by
 unfold qcd
 split
 ·exact { h with rp := by show (T.reply ++ s).size ≤ 400; rw [ByteArray.size_append]; omega }
 ·exact h
theorem lim_tell (h : Lim W H T) (c k : Int) : Lim W H (qbv T c k) := by
 unfold qbv
 refine qo (fun _ => h.flags rfl rfl rfl rfl rfl rfl rfl rfl rfl) fun _ => ?_
 refine qo (fun _ => h.flags rfl rfl rfl rfl rfl rfl rfl rfl rfl) fun _ => ?_
 refine qo (fun _ => h.flags rfl rfl rfl rfl rfl rfl rfl rfl rfl) fun _ => ?_
 refine qo (fun _ => qde h _) fun _ => ?_
 refine qo (fun _ => qde h _) fun _ => ?_
 refine qo (fun _ => qde h _) fun _ => h
theorem qil (h : Lim W H T) (y a b : Int) (s : Sty) : Lim W H (qbu T y a b s) := h.grid (qbp _ _ _ _ _)
theorem qgX (h : Lim W H T) (k x y : Int) (s : Sty) (i : Int) : Lim W H (qap T k x y s i) := by
 unfold qap
 repeat' split
 all_goals first | exact qil h _ _ _ _ | exact h
theorem qdV (h : Lim W H T) (k x y : Int) (s : Sty) (a : Int) (j : Nat) : Lim W H (qcL T k x y s a j) := by
 induction j with
 | zero => exact h
 | succ j ih => exact qgX ih _ _ _ _ _
theorem qdf (h : Lim W H T) (k a b : Int) : Lim W H (qdT T k a b) := qdV h _ _ _ _ _ _
theorem lim_edit (h : Lim W H T) (c n : Int) (l : List Int) : Lim W H (qat T c n l) := by
 have hd : ∀ a b n s, Lim W H { T with grid := qej T.grid a b n s } := fun a b n s => h.grid (G := qej T.grid a b n s) ⟨rfl, rfl⟩
 have hu : ∀ a b n s, Lim W H { T with grid := upG T.grid a b n s } := fun a b n s => h.grid (G := upG T.grid a b n s) ⟨rfl, rfl⟩
 unfold qat
 refine qo (fun _ => h.grid (qi3 _ _ _ _ _)) fun _ => ?_
 refine qo (fun _ => h.grid (shutG_w _ _ _ _ _)) fun _ => ?_
 refine qo (fun _ => h.grid (qbp _ _ _ _ _)) fun _ => ?_
 refine qo (fun _ => qdf h _ _ _) fun _ => ?_
 refine qo (fun _ => qo (fun _ => qdf (T := { T with back := [] }) { h with bk := by simp } _ _ _) fun _ => qdf h _ _ _) fun _ => ?_
 refine qo (fun _ => qo (fun _ => hd _ _ _ _) fun _ => h) fun _ => ?_
 refine qo (fun _ => qo (fun _ => hu _ _ _ _) fun _ => h) fun _ => ?_
 refine qo (fun _ => qdH h _) fun _ => ?_
 refine qo (fun _ => hd _ _ _ _) fun _ => ?_
 exact lim_tell h _ _
theorem qcA (l : List Int) (i : Nat) : 1 ≤ qh l i := by unfold qh; split <;> omega
theorem qfd {l : List Int} (h : ∀ x ∈ l, 0 ≤ x ∧ x ≤ 9999) (i : Nat) : qh l i ≤ 9999 := by
 unfold qh
 have := qa0 h (by decide) i
 split <;> omega
theorem qgY (h : Lim W H T) {n e : Int} (hn : 1 ≤ n ∧ n < e ∧ e ≤ H) : Lim W H { T with top := n - 1, bot := e } :=
 {h with tb := ⟨by show (0 : Int) ≤ n - 1; omega, by show n - 1 < e; omega, hn.2.2⟩ }
theorem qim (h : Lim W H T) (c : Int) (l : List Int) : Lim W H (qU T c l) := by
 have h1 := h.g1
 have hp := qcA l 0
 unfold qU
 refine qo (fun _ => qb4 h _ _) fun _ => ?_
 refine qo (fun _ => qb4 h _ _) fun _ => ?_
 refine qo (fun _ => qb4 h _ _) fun _ => ?_
 refine qo (fun _ => qb4 h _ _) fun _ => ?_
 refine qo (fun _ => qb4 h _ _) fun _ => ?_
 refine qo (fun _ => qcX h _ _) fun _ => ?_
 refine qo (fun _ => qcX h _ _) fun _ => ?_
 refine qo (fun _ => h.cursor h.cu) fun _ => ?_
 refine qo (fun _ => qo (fun h5 => qcX (qgY h ⟨hp, h5, ?_⟩) _ _) fun _ => h) fun _ => lim_edit h _ _ _
 split <;> omega
theorem qdg (G : Gr) (k : Nat) : (qcy G k).w = G.w ∧ (qcy G k).h = G.h := by
 induction k with
 | zero => exact ⟨rfl, rfl⟩
 | succ k ih => exact ⟨(qbp _ _ _ _ _).1.trans ih.1, (qbp _ _ _ _ _).2.trans ih.2⟩
theorem qgZ (h : Lim W H T) (k : Nat) : Lim W H (qer T k) := h.grid (qdg _ _)
theorem lim_turn (h : Lim W H T) (b : Bool) : Lim W H (qik T b) := by
 have h1 := h.g1
 have h2 := h.g2
 unfold qik
 split
 ·exact h
 ·split
  ·exact ⟨h.wb, h.hb, ⟨(qdg _ _).1.trans h2.1, (qdg _ _).2.trans h2.2⟩, h1, h.cu, h.sa, h.cu, h.tb, h.bk, h.rp⟩
  ·exact ⟨h.wb, h.hb, h2, h1, h.aw, h.sa, h.cu, h.tb, h.bk, h.rp⟩
theorem lim_mode (h : Lim W H T) (n : Int) (b : Bool) : Lim W H (qaA T n b) := by
 unfold qaA
 split
 ·exact qcX (T := { T with origin := b }) (h.flags rfl rfl rfl rfl rfl rfl rfl rfl rfl) _ _
 split
 ·exact { h.cursor (c := ⟨T.cursor.x, T.cursor.y, T.cursor.late && b, T.cursor.sty⟩) h.cu with }
 split
 ·exact h.flags rfl rfl rfl rfl rfl rfl rfl rfl rfl
 split
 ·exact lim_turn h b
 ·exact h
theorem qbD (h : Lim W H T) (l : List Int) (b : Bool) : Lim W H (l.foldl (fun T n => qaA T n b) T) := by
 induction l generalizing T with
 | nil => exact h
 | cons n l ih => exact ih (lim_mode h n b)
theorem lim_csi (h : Lim W H T) (a : Ac) : Lim W H (qhn T a) := by
 unfold qhn
 split
 ·exact qim h _ _
 split
 ·exact qbD h _ _
 ·exact h
theorem qge {n : Int} (h : 1 ≤ n ∧ n ≤ 60) : qp n = n := by unfold qp; omega
theorem qdh (T : TS) (w h : Int) (hr : T.reply.size ≤ 400) : Lim (qp w) (qp h) (startT T w h) := by
 have h1 : 1 ≤ qp w ∧ qp w ≤ 60 := by unfold qp; omega
 have h2 : 1 ≤ qp h ∧ qp h ≤ 60 := by unfold qp; omega
 have hc : (0 ≤ cur0.x ∧ cur0.x < qp w) ∧ 0 ≤ cur0.y ∧ cur0.y < qp h := ⟨⟨by decide, by show (0 : Int) < _; omega⟩, by decide, by show (0 : Int) < _; omega⟩
 exact ⟨h1, h2, ⟨rfl, rfl⟩, ⟨rfl, rfl⟩, hc, hc, hc, ⟨by show (0 : Int) ≤ 0; omega, by show (0 : Int) < qp h; omega, by show qp h ≤ qp h; omega⟩, by show ([] : List (List Cel)).length ≤ 20; simp, hr⟩
theorem lim_esc (h : Lim W H T) (a : Ac) : Lim W H (qdU T a) := by
 unfold qdU
 refine qo (fun _ => qo (fun _ => h.flags rfl rfl rfl rfl rfl rfl rfl rfl rfl) fun _ => h) fun _ => ?_
 refine qo (fun _ => qo (fun _ => h.flags rfl rfl rfl rfl rfl rfl rfl rfl rfl) fun _ => h) fun _ => ?_
 refine qo (fun _ => h) fun _ => ?_
 refine qo (fun _ => { h with sa := h.cu }) fun _ => ?_
 refine qo (fun _ => { h with cu := h.sa }) fun _ => ?_
 refine qo (fun _ => qeo (qaD h) _) fun _ => ?_
 refine qo (fun _ => qb4 (qaD h) _ _) fun _ => ?_
 refine qo (fun _ => qeo (lim_up h) _) fun _ => ?_
 refine qo (fun _ => h.flags rfl rfl rfl rfl rfl rfl rfl rfl rfl) fun _ => ?_
 refine qo (fun _ => ?_) fun _ => h
 have := qdh T T.grid.w T.grid.h h.rp
 rw [h.g1.1, h.g1.2, qge h.wb, qge h.hb] at this
 rw [h.g1.1, h.g1.2]; exact this
theorem lim_osc (h : Lim W H T) (a : Ac) : Lim W H (qho T a) := by
 unfold qho
 split
 ·exact h.flags rfl rfl rfl rfl rfl rfl rfl rfl rfl
 ·exact h
theorem qin (h : Lim W H T) (a : Ac) : Lim W H (qcz T a) := by
 unfold qcz
 split
 ·exact qi5 h _
 split
 ·exact lim_exec h _
 split
 ·exact lim_esc h a
 split
 ·exact lim_csi h a
 split
 ·exact lim_osc h a
 ·exact h
end
section
variable {w0 w : World} {F0 : Nat → Prop} {l : List Asn} {x : Option (Nat × Nat)} {t : Nat} {T : TS}
theorem Sep.lt (h : Sep w0 F0 w l) (hg : Gz w0 F0) (hT : LT w0) : LT w := qq h.ch hT fun b hb => (hg.lo b hb).1
theorem Sep.ints {k : IntKind} {ao : Option Nat} {an cc : Nat} {ps : List Int} (h : Sep w0 F0 w l) (hV : IntsAt w0 k ao an cc ps (fun b => ¬ F0 b ∧ b < w0.heap.size)) : IntsAt w k ao an cc ps (fun b => ¬ F0 b ∧ b < w0.heap.size) := hV.ch h.ch fun _ hb h => hb.1 h
theorem Sep.intsF {k : IntKind} {ao : Option Nat} {an cc : Nat} {ps : List Int} {F : Nat → Prop} (h : Sep w0 F0 w l) (hV : IntsAt w0 k ao an cc ps (fun b => ¬ F0 b ∧ b < w0.heap.size)) (hF : ∀ b, F b → (F0 b ∨ w0.heap.size ≤ b) ∧ b < w.heap.size) : IntsAt w k ao an cc ps (fun b => ¬ F b ∧ b < w.heap.size) :=
 (h.ints hV).mono fun b hb => ⟨fun hf => (hF b hf).1.elim hb.1 fun h2 => by omega, Nat.lt_of_lt_of_le hb.2 h.ch.size⟩
end
section
variable {P : Program} {N : Nat} {ops : Array Oper} {Q : Exit → Act → World → Prop} {f : Fr} {k : Nat} {K : Act → World → Prop} {w0 w : World} {F0 : Nat → Prop} {l : List Asn} {x : Option (Nat × Nat)} {t : Nat} {T : TS}
theorem zNil (i : Nat) (h : Sep w0 F0 w l) (hK : ∀ w', Sep w0 F0 w' (l.set i (tmA x t { T with back := [] })) → ∀ a', Has N (pushd (dO ops k) undef f) a' → K a' w')
  (hs : storeAt P N ops f k = some (t, 97, [.slice none 0 0], dO ops k) := by kernel_rfl) (hi : l[i]? = some (tmA x t T) := by rfl) : ∀ a, Has N f a → wpOp P ops Q k K a w := by
 obtain ⟨F, h1, h2, h3⟩ := h.ex
 obtain ⟨g, o, ba, bn, bc, pa, pn, pc, F1, F2, FB, FP, hI, hx⟩ := h1 i _ hi
 refine qY _ _ _ hs hI.blk (by rw [qbh]; exact qbb rfl) fun w' hB hc => hK w' (h.upd hi F h1 h2 h3 ?_ (hI.cht hc))
 have hB' : Blk w' t (TS.vals { T with back := [] } g o (.slice none 0 0) (.slice pa pn pc)) qbo := hB.to (by kernel_rfl)
 exact ⟨g, o, _, _, _, _, _, _, _, _, _, _, (hI.nilBack hc hB').mono (fun _ h => .inl h) (hI.moreOk hc.size), hx⟩
end
theorem qes {w : World} {t : Nat} {W H : Int} {T : TS} {F : Nat → Prop} (hA0 : TermAt w t T F) (hT : LT w) (hL : Lim W H T) (x : ByteArray) (hx : x.size ≤ 1000) : Calls Tryz.prog 117 [pX t, .string x].toArray w fun e w' => e = .returned (.tuple #[]) ∧ TermAt w' t (qcd T x) (more F w w') ∧ Ch F w w' := by
 have h := Sep.startT hA0; have hg := Gz.of hA0; have hM := hL; have b := hM.all; refine yA Tryz.func117 rfl <| ysr <| yp 9 [] (.l (h.tc 0 107) (.q6 (((T.reply).size : Int) + ((x).size : Int)) .z)) <| ye <| yc (rM (((T.reply).size : Int) + ((x).size : Int)) 400) (fun a => ?_) fun a => ?_
 ·refine q7 <| yp 8 [] (.l (h.tc 0 107) (.p (q := (T.reply).size + (x).size ≤ 9223372036854775807) (by omega) .z)) <| yo (zT 0 ({ T with reply := (T.reply ++ x) } : TS) h fun u h => ?_); refine yE (qB ?_); refine h.tfin hg ?_; simp [qcd, *]
 refine qk (qB ?_); refine h.tfin hg ?_; simp [qcd, *]
theorem qfe : (⟨#[59]⟩ : ByteArray).size = 1 := rfl
theorem qh0 (n : Int) : (qcK n).size ≤ 2 := by
 unfold qcK; split
 ·rw [ByteArray.size_extract]; omega
 rw [ByteArray.size_extract]; omega
theorem qbE (n : Int) : (qa1 n).size ≤ 3 := by
 have d : ∀ a b : Int, (qD [a, b]).size = 2 := fun _ _ => rfl; have e : ∀ a b c : Int, (qD [a, b, c]).size = 3 := fun _ _ _ => rfl; have := qh0 n; unfold qa1; split
 ·omega
 split
 ·rw [d]; omega
 rw [e]; omega
theorem qio {w : World} {t g o : Nat} {ba : Option Addr} {bn bc : Nat} {pa : Option Addr} {pn pc : Nat} {T : TS} {F F1 F2 FB FP : Nat → Prop} (hI : TermIn w t g o ba bn bc pa pn pc T F F1 F2 FB FP) {W H : Int} (hT : LT w) (hL : Lim W H T) : Calls Tryz.prog 118 [pX t].toArray w fun e w' => e = .returned (.string (qce T)) ∧ Ch (fun _ => False) w w' := by
 have j := hI.g1.head; obtain ⟨gv, j⟩ := j; obtain ⟨⟨L, M⟩, ⟨N, O⟩, P, Q⟩ := hI.g1.ok; have R : Df t g := fun e => hI.t1 (e ▸ hI.g1.inF); have S := hI.inF.1; have n := hL; have U := n.all; have V := qbE (T.cursor.y + 1); have X := qbE (T.cursor.y - T.top + 1); have Y := qbE (T.cursor.x + 1); refine yA Tryz.func118 rfl <| yx 1 <| ysr <| yp 6 [] (.l (hI.blk.c 3) .z) <| ye <| ys <| ysr <| yp 4 [] (.l (hI.blk.c 89) .z) <| ye <| yc (rY T.origin) (fun a => ?_) fun a => ?_
 ·refine q7 <| yp 7 [] (.l (hI.blk.c 26) (.q6 (T.cursor.y - T.top) .z)) <| ye <| ys <| yDC [10] fun Z a0 b => ?_; have r := zu (zm w) b iZ; have s := hI.blk.ch b id; have k := qq b hT (fun _ h => h.elim); refine ydC [0, 1, 4, 5, 6, 7, 8, 9] [] (fun u hu => (.q6 ((T.cursor.y - T.top) + 1) (.l (qF hu (s.c 2) id) (.q6 (T.cursor.x + 1) .z)))) <| yH 2 (yQ (qb6 ((T.cursor.y - T.top) + 1) _ k.pt (by omega) (by omega)) fun a1 d => ?_); have v := zu r d iZ; have A := qq d k (fun _ h => h.elim); refine qaq d <| ydT [3] [] (Ch.refl _ _) (fun _ => (.p (q := ((qa1 ((T.cursor.y - T.top) + 1))).size + ((⟨#[59]⟩ : ByteArray)).size ≤ 9223372036854775807) (by simp only [ByteArray.size_append, qfe]; omega) .z)) <| yK 10 (yQ (qb6 (T.cursor.x + 1) _ A.pt (by omega) (by omega)) fun a2 B => ?_); have C := zu v B iZ; refine q9 <| yd [11, 12] [] (.p (q := (((qa1 ((T.cursor.y - T.top) + 1)) ++ (⟨#[59]⟩ : ByteArray))).size + ((qa1 (T.cursor.x + 1))).size ≤ 9223372036854775807) (by simp only [ByteArray.size_append, qfe]; omega) .z) <| yDe (nS ?_); refine q8 (yR1 (.string (((qa1 ((T.cursor.y - T.top) + 1)) ++ (⟨#[59]⟩ : ByteArray)) ++ (qa1 (T.cursor.x + 1)))) ?_); refine ⟨congrArg Ending.returned (congrArg Value.string ?_), Up.ch C⟩; simp only [qce, a, ↓reduceIte, Bool.false_eq_true]
 refine yk <| ys <| yDC [10] fun a3 a4 f => ?_; have D := zu (zm w) f iZ; have E := hI.blk.ch f id; have m := qq f hT (fun _ h => h.elim); refine ydC [0, 1, 4, 5, 6, 7, 8, 9] [] (fun u hu => (.q6 (T.cursor.y + 1) (.l (qF hu (E.c 2) id) (.q6 (T.cursor.x + 1) .z)))) <| yH 2 (yQ (qb6 (T.cursor.y + 1) _ m.pt (by omega) (by omega)) fun a5 i => ?_); have G := zu D i iZ; have I := qq i m (fun _ h => h.elim); refine qaq i <| ydT [3] [] (Ch.refl _ _) (fun _ => (.p (q := ((qa1 (T.cursor.y + 1))).size + ((⟨#[59]⟩ : ByteArray)).size ≤ 9223372036854775807) (by simp only [ByteArray.size_append, qfe]; omega) .z)) <| yK 10 (yQ (qb6 (T.cursor.x + 1) _ I.pt (by omega) (by omega)) fun a6 J => ?_); have K := zu G J iZ; refine q9 <| yd [11, 12] [] (.p (q := (((qa1 (T.cursor.y + 1)) ++ (⟨#[59]⟩ : ByteArray))).size + ((qa1 (T.cursor.x + 1))).size ≤ 9223372036854775807) (by simp only [ByteArray.size_append, qfe]; omega) .z) <| yDe (nS ?_); refine q8 (yR1 (.string (((qa1 (T.cursor.y + 1)) ++ (⟨#[59]⟩ : ByteArray)) ++ (qa1 (T.cursor.x + 1)))) ?_); refine ⟨congrArg Ending.returned (congrArg Value.string ?_), Up.ch K⟩; simp only [qce, a, ↓reduceIte, Bool.false_eq_true]
theorem qbP {w : World} {t : Nat} {W H : Int} {T : TS} {F : Nat → Prop} (hA0 : TermAt w t T F) (hT : LT w) (hL : Lim W H T) (kk fa fb : Int) (hab : (0 ≤ fa ∧ fa ≤ 60) ∧ 0 ≤ fb ∧ fb ≤ 60) : Calls Tryz.prog 110 [pX t, iX kk, iX fa, iX fb].toArray w fun e w' => e = .returned (.tuple #[]) ∧ TermAt w' t (qdT T kk fa fb) (more F w w') ∧ Ch F w w' := by
 have h := Sep.startT hA0; have hg := Gz.of hA0; have hM := hL; have B := hM.all; refine yA Tryz.func110 rfl <| ys <| zDC [18] [0] h fun u h => ydF (uL 0 15) [] h.on (fun u h => (.l (h.tc 0 2) (.l (h.tc 0 3) (.a (h.ts 0 5 5) .z)))) <| yH 15 (zN [.bool false, .bool false, .bool false, iX 0, iX 0] 33 h fun u p h => ?_); refine zHa h <| ydF [16, 17] [] h.on (fun u h => .z) <| yK 18 (zs h 1 fun u h => ?_); refine q9 <| yDe (nS ?_); refine yx 2 <| qa ?_; have h := h.nrm 1 [.bool T.cursor.sty.bold, .bool T.cursor.sty.under, .bool T.cursor.sty.turned, iX T.cursor.sty.fore, iX T.cursor.sty.back]; refine qa2 [0, 1, 3, 8, 9, 10, 11] (f' := [(0, pX t), (1, iX kk), (3, iX fb), (8, iX T.cursor.x), (9, iX T.cursor.y), (10, pX p), (11, iX fa)]) <| qG (σ := Nat) (fun j => [(0, pX t), (1, iX kk), (3, iX fb), (8, iX T.cursor.x), (9, iX T.cursor.y), (10, pX p), (11, iX (fa + ((j : Nat) : Int)))]) (fun j u => j ≤ (fb - fa).toNat ∧ Sep w F u [qbq t (qcL T kk T.cursor.x T.cursor.y T.cursor.sty fa j), qg p [.bool T.cursor.sty.bold, .bool T.cursor.sty.under, .bool T.cursor.sty.turned, iX T.cursor.sty.fore, iX T.cursor.sty.back] 33]) (fun j => (fb - fa).toNat - j) 0 (by simp) ?_ ?_
 ·exact ⟨Nat.zero_le _, h.cuts 2 rfl rfl⟩
 intro j u r C i; obtain ⟨hj, h⟩ := r; have q : Lim W H (qcL T kk T.cursor.x T.cursor.y T.cursor.sty fa j) := (qdV hL _ _ _ _ _ _)
 generalize b : (qcL T kk T.cursor.x T.cursor.y T.cursor.sty fa j) = o at h q; have s := q; have D := s.all; refine ys <| yx 3 <| yc (rL (fa + ((j : Nat) : Int)) fb) (fun v => ?_) fun v => ?_
 ·refine yk <| ys <| qa <| qa <| ysr <| yq 3 <| yw [36] (rE kk 2) (fun g => ?_) fun g => ?_
  ·refine yz 21 <| yct ?_; obtain ⟨E, G, h⟩ := h.opn 0; refine zD [13] h fun u h => yd (uL 0 13) [] (.l (h.tg 0) (.l (h.tg 0) (.l (h.gw 0).1 (.a (h.cs 1 0 5) .z)))) <| yK 13 (yQ (h.grd 0 fun _ hG => qag _ _ _ ((fa + ((j : Nat) : Int))) (0) (o.grid.w) T.cursor.sty _ (h.tb hg hT.tb) hG) fun u h => ?_); refine q9 <| yDe (nB (nB (nS ?_))); refine q7 <| yp 3 [] (.q6 ((fa + ((j : Nat) : Int)) + 1) .z) <| yE (fun a ha => i (j + 1) _ ⟨(by omega), h.cuts 2 rfl (by rw [← b]; show qap _ _ _ _ _ _ = _; rw [b]; simp only [qap, qbu, g, ↓reduceIte, Int.reduceEq, and_true, true_and, and_false, false_and, or_true, true_or, or_false, false_or])⟩ (by show (fb - fa).toNat - (j + 1) < (fb - fa).toNat - j; omega) a (by rw [show (fa + ((j + 1 : Nat) : Int)) = (fa + ((j : Nat) : Int)) + 1 by omega]; exact ha.kp [0, 1, 3, 8, 9, 10, 11]))
  refine yq 6 <| yw [39] (rE kk 0) (fun k => ?_) fun k => ?_
  ·refine yq 12 <| yw [45] (rL T.cursor.y (fa + ((j : Nat) : Int))) (fun d => ?_) fun d => ?_
   ·refine yz 21 <| yct ?_; obtain ⟨I, J, h⟩ := h.opn 0; refine zD [13] h fun u h => yd (uL 0 13) [] (.l (h.tg 0) (.l (h.tg 0) (.l (h.gw 0).1 (.a (h.cs 1 0 5) .z)))) <| yK 13 (yQ (h.grd 0 fun _ hG => qag _ _ _ ((fa + ((j : Nat) : Int))) (0) (o.grid.w) T.cursor.sty _ (h.tb hg hT.tb) hG) fun u h => ?_); refine q9 <| yDe (nB (nB (nS ?_))); refine q7 <| yp 3 [] (.q6 ((fa + ((j : Nat) : Int)) + 1) .z) <| yE (fun a ha => i (j + 1) _ ⟨(by omega), h.cuts 2 rfl (by rw [← b]; show qap _ _ _ _ _ _ = _; rw [b]; simp only [qap, qbu, g, k, d, ↓reduceIte, Int.reduceEq, and_true, true_and, and_false, false_and, or_true, true_or, or_false, false_or])⟩ (by show (fb - fa).toNat - (j + 1) < (fb - fa).toNat - j; omega) a (by rw [show (fa + ((j + 1 : Nat) : Int)) = (fa + ((j : Nat) : Int)) + 1 by omega]; exact ha.kp [0, 1, 3, 8, 9, 10, 11]))
   refine yq 15 <| yw [48] (rE kk 1) (fun c => ?_) fun c => ?_
   ·exfalso; omega
   refine yz 21 <| ycf <| ysr <| yq 3 <| yw [71] (rE kk 0) (fun f => ?_) fun f => ?_
   ·refine yz 8 <| yc (rE (fa + ((j : Nat) : Int)) T.cursor.y) (fun m => ?_) fun m => ?_
    ·obtain ⟨K, L, h⟩ := h.opn 0; refine zD [14] h fun u h => yd (uL 0 14) [] (.l (h.tg 0) (.l (h.tg 0) (.l (h.gw 0).1 (.a (h.cs 1 0 5) .z)))) <| yK 14 (yQ (h.grd 0 fun _ hG => qag _ _ _ ((fa + ((j : Nat) : Int))) (T.cursor.x) (o.grid.w) T.cursor.sty _ (h.tb hg hT.tb) hG) fun u h => ?_); refine q9 <| yDe (nB (nB (nS ?_))); refine q7 <| yp 3 [] (.q6 ((fa + ((j : Nat) : Int)) + 1) .z) <| yE (fun a ha => i (j + 1) _ ⟨(by omega), h.cuts 2 rfl (by rw [← b]; show qap _ _ _ _ _ _ = _; rw [b]; simp only [qap, qbu, g, k, d, c, f, eq_true m, ↓reduceIte, Int.reduceEq, and_true, true_and, and_false, false_and, or_true, true_or, or_false, false_or])⟩ (by show (fb - fa).toNat - (j + 1) < (fb - fa).toNat - j; omega) a (by rw [show (fa + ((j + 1 : Nat) : Int)) = (fa + ((j : Nat) : Int)) + 1 by omega]; exact ha.kp [0, 1, 3, 8, 9, 10, 11]))
    refine ysr <| yq 3 <| yw [94] (rE kk 1) (fun n => ?_) fun n => ?_
    ·exfalso; omega
    refine yz 8 <| ycf <| qk (nB (nB (nS ?_))); refine q7 <| yp 3 [] (.q6 ((fa + ((j : Nat) : Int)) + 1) .z) <| yE (fun a ha => i (j + 1) _ ⟨(by omega), h.cuts 2 rfl (by rw [← b]; show qap _ _ _ _ _ _ = _; rw [b]; simp only [qap, qbu, g, k, d, c, f, m, n, ↓reduceIte, Int.reduceEq, and_true, true_and, and_false, false_and, or_true, true_or, or_false, false_or])⟩ (by show (fb - fa).toNat - (j + 1) < (fb - fa).toNat - j; omega) a (by rw [show (fa + ((j + 1 : Nat) : Int)) = (fa + ((j : Nat) : Int)) + 1 by omega]; exact ha.kp [0, 1, 3, 8, 9, 10, 11]))
   exfalso; omega
  refine yq 15 <| yw [48] (rE kk 1) (fun d => ?_) fun d => ?_
  ·refine yz 21 <| yc (rL (fa + ((j : Nat) : Int)) T.cursor.y) (fun c => ?_) fun c => ?_
   ·obtain ⟨M, N, h⟩ := h.opn 0; refine zD [13] h fun u h => yd (uL 0 13) [] (.l (h.tg 0) (.l (h.tg 0) (.l (h.gw 0).1 (.a (h.cs 1 0 5) .z)))) <| yK 13 (yQ (h.grd 0 fun _ hG => qag _ _ _ ((fa + ((j : Nat) : Int))) (0) (o.grid.w) T.cursor.sty _ (h.tb hg hT.tb) hG) fun u h => ?_); refine q9 <| yDe (nB (nB (nS ?_))); refine q7 <| yp 3 [] (.q6 ((fa + ((j : Nat) : Int)) + 1) .z) <| yE (fun a ha => i (j + 1) _ ⟨(by omega), h.cuts 2 rfl (by rw [← b]; show qap _ _ _ _ _ _ = _; rw [b]; simp only [qap, qbu, g, k, d, c, ↓reduceIte, Int.reduceEq, and_true, true_and, and_false, false_and, or_true, true_or, or_false, false_or])⟩ (by show (fb - fa).toNat - (j + 1) < (fb - fa).toNat - j; omega) a (by rw [show (fa + ((j + 1 : Nat) : Int)) = (fa + ((j : Nat) : Int)) + 1 by omega]; exact ha.kp [0, 1, 3, 8, 9, 10, 11]))
   refine ysr <| yq 3 <| yw [71] (rE kk 0) (fun f => ?_) fun f => ?_
   ·exfalso; omega
   refine yz 8 <| ycf <| ysr <| yq 3 <| yw [94] (rE kk 1) (fun m => ?_) fun m => ?_
   ·refine yz 8 <| yc (rE (fa + ((j : Nat) : Int)) T.cursor.y) (fun n => ?_) fun n => ?_
    ·obtain ⟨O, P, h⟩ := h.opn 0; refine zD [8] h fun u h => yd (uL 0 8) [] (.l (h.tg 0) (.q6 (T.cursor.x + 1) (.a (h.cs 1 0 5) .z))) <| yK 8 (yQ (h.grd 0 fun _ hG => qag _ _ _ ((fa + ((j : Nat) : Int))) (0) ((T.cursor.x + 1)) T.cursor.sty _ (h.tb hg hT.tb) hG) fun u h => ?_); refine q9 <| yDe (nB (nB (nS ?_))); refine q7 <| yp 3 [] (.q6 ((fa + ((j : Nat) : Int)) + 1) .z) <| yE (fun a ha => i (j + 1) _ ⟨(by omega), h.cuts 2 rfl (by rw [← b]; show qap _ _ _ _ _ _ = _; rw [b]; simp only [qap, qbu, g, k, d, c, f, m, eq_true n, ↓reduceIte, Int.reduceEq, and_true, true_and, and_false, false_and, or_true, true_or, or_false, false_or])⟩ (by show (fb - fa).toNat - (j + 1) < (fb - fa).toNat - j; omega) a (by rw [show (fa + ((j + 1 : Nat) : Int)) = (fa + ((j : Nat) : Int)) + 1 by omega]; exact ha.kp [0, 1, 3, 8, 9, 10, 11]))
    refine qk (nB (nB (nS ?_))); refine q7 <| yp 3 [] (.q6 ((fa + ((j : Nat) : Int)) + 1) .z) <| yE (fun a ha => i (j + 1) _ ⟨(by omega), h.cuts 2 rfl (by rw [← b]; show qap _ _ _ _ _ _ = _; rw [b]; simp only [qap, qbu, g, k, d, c, f, m, n, ↓reduceIte, Int.reduceEq, and_true, true_and, and_false, false_and, or_true, true_or, or_false, false_or])⟩ (by show (fb - fa).toNat - (j + 1) < (fb - fa).toNat - j; omega) a (by rw [show (fa + ((j + 1 : Nat) : Int)) = (fa + ((j : Nat) : Int)) + 1 by omega]; exact ha.kp [0, 1, 3, 8, 9, 10, 11]))
   exfalso; omega
  refine yz 21 <| ycf <| ysr <| yq 3 <| yw [71] (rE kk 0) (fun c => ?_) fun c => ?_
  ·exfalso; omega
  refine yz 8 <| ycf <| ysr <| yq 3 <| yw [94] (rE kk 1) (fun f => ?_) fun f => ?_
  ·exfalso; omega
  refine yz 8 <| ycf <| qk (nB (nB (nS ?_))); refine q7 <| yp 3 [] (.q6 ((fa + ((j : Nat) : Int)) + 1) .z) <| yE (fun a ha => i (j + 1) _ ⟨(by omega), h.cuts 2 rfl (by rw [← b]; show qap _ _ _ _ _ _ = _; rw [b]; simp only [qap, qbu, g, k, d, c, f, ↓reduceIte, Int.reduceEq, and_true, true_and, and_false, false_and, or_true, true_or, or_false, false_or])⟩ (by show (fb - fa).toNat - (j + 1) < (fb - fa).toNat - j; omega) a (by rw [show (fa + ((j + 1 : Nat) : Int)) = (fa + ((j : Nat) : Int)) + 1 by omega]; exact ha.kp [0, 1, 3, 8, 9, 10, 11]))
 have A : j = (fb - fa).toNat := by omega
 refine qv (eS (qe (qb (qB ?_)))); subst b; subst A; exact h.tfin hg rfl
theorem qdi {w : World} {ao : Option Nat} {an cc : Nat} {l : List Int} {K : Nat → Prop} (h : IntsAt w .i64 ao an cc l K) (a : Ac) (ha : a.params = l) (i : Nat) : Calls Tryz.prog 97 [.agg #[iX a.kind, rX a.rune, uX a.last, .string a.marks, .slice (ao.map at0) an cc, .string a.text], iX ((i : Nat) : Int)].toArray w fun e w' => e = .returned (iX (qh a.params i)) ∧ Ch (fun _ => False) w w' := by
 subst ha; obtain ⟨d, c, g, f⟩ := h; cases ao with
 | none =>
  have e : a.params = [] := by have := d.1 rfl; simpa using this
  rw [e] at c; subst c; rw [e]; exact qgM i _ _ _ _ _ _ _ w
 | some b => exact qgK b i _ _ _ _ _ an cc _ w d (f b rfl).2 c
theorem qau {w : World} {ao : Option Nat} {an cc : Nat} {l : List Int} {K : Nat → Prop} (h : IntsAt w .i64 ao an cc l K) (a : Ac) (ha : a.params = l) : Calls Tryz.prog 111 [.agg #[iX a.kind, rX a.rune, uX a.last, .string a.marks, .slice (ao.map at0) an cc, .string a.text]].toArray w fun e w' => e = .returned (iX (qa4 a.params)) ∧ Ch (fun _ => False) w w' := by
 subst ha; obtain ⟨d, c, i, g⟩ := h; by_cases f : an = 0
 ·subst f; have e : a.params = [] := List.eq_nil_of_length_eq_zero c; rw [e]; exact qgN _ _ _ _ _ _ _ w
 cases ao with
 | none =>
  have e : a.params = [] := by have := d.1 rfl; simpa using this
  rw [e] at c; exact absurd c.symm f
 | some b => exact qgL b _ _ _ _ _ an cc _ w d (g b rfl).2 c (by omega)
theorem qfN {w : World} {ao : Option Nat} {an cc : Nat} {l : List Int} {K : Nat → Prop} (h : IntsAt w .i64 ao an cc l K) (s : Sty) (hn : an ≤ 1000) : Calls Tryz.prog 99 [.agg #[.bool s.bold, .bool s.under, .bool s.turned, iX s.fore, iX s.back], .slice (ao.map at0) an cc].toArray w fun e w' => e = .returned (.agg (qbN s l).vals.toArray) ∧ Ch (fun _ => False) w w' := by
 obtain ⟨c, a, g, f⟩ := h; by_cases d : an = 0
 ·subst d; have e : l = [] := List.eq_nil_of_length_eq_zero a; rw [e]; exact qf2 _ _ s w
 cases ao with
 | none =>
  have e : l = [] := by have := c.1 rfl; simpa using this
  rw [e] at a; exact absurd a.symm d
 | some b => exact qf1 b an cc l s w c (f b rfl).2 a (by omega) hn
theorem qh1 (T : TS) : (qce T).size ≤ 7 := by
 have a := qbE ((if T.origin = true then T.cursor.y - T.top else T.cursor.y) + 1); have b := qbE (T.cursor.x + 1); unfold qce; rw [ByteArray.size_append, ByteArray.size_append, qfe]; omega
theorem qdW {w : World} {t : Nat} {W H : Int} {T : TS} {F : Nat → Prop} (hA : TermAt w t T F) (hT : qR w) (hL : Lim W H T) (n : Int) : Calls Tryz.prog 94 [pX t, iX n].toArray w fun e w' => e = .returned (.tuple #[]) ∧ TermAt w' t (qaL T n) (more F w w') ∧ Ch F w w' := qf5 hA hT (by have := hL.bk; omega) n
theorem up_any2 (g : Nat) (G : Gr) (F : Nat → Prop) (p1 p2 n : Int) (s : Sty) (w : World) (hT : qR w) (hG : GridAt w g G F) : Calls Tryz.prog 106 [pX g, iX p1, iX p2, iX n, .agg #[.bool s.bold, .bool s.under, .bool s.turned, iX s.fore, iX s.back]].toArray w fun e w' => ∃ v, e = .returned v ∧ GridAt w' g (upG G p1 p2 n s) (more F w w') ∧ Ch F w w' :=
  (up_any g G F p1 p2 n s w hT hG).mono fun _ w' ⟨_, _, _, _, F', _, he, _, _, h, hF, _, _, hc⟩ => ⟨_, he, h.mono hF (qaK hG hc.size), hc⟩
theorem qip {w : World} {t : Nat} {W H : Int} {T : TS} {F : Nat → Prop} (hA0 : TermAt w t T F) (hT : LT w) (hL : Lim W H T) {ao : Option Nat} {an cc : Nat} {ac : Ac} (hV : IntsAt w .i64 ao an cc ac.params (fun b => ¬ F b ∧ b < w.heap.size)) (hV8 : an ≤ 8) (hVb : ∀ x ∈ ac.params, 0 ≤ x ∧ x ≤ 9999) : Calls Tryz.prog 112 [pX t, .agg #[iX ac.kind, rX ac.rune, uX ac.last, .string ac.marks, .slice (ao.map at0) an cc, .string ac.text]].toArray w fun e w' => e = .returned (.tuple #[]) ∧ TermAt w' t (qbv T ac.last (qa4 ac.params)) (more F w w') ∧ Ch F w w' := by
 have h := Sep.startT hA0; have hg := Gz.of hA0; have hM := hL; have y := hM.all; refine yA Tryz.func112 rfl <| ysr <| yo (zN [iX ac.kind, rX ac.rune, uX ac.last, .string ac.marks, .slice (ao.map at0) an cc, .string ac.text] 90 h fun u A h => ?_); refine ye <| ysr <| yp 1 [] (.a (h.cs 1 0 6) .z) <| yo (yQ (h.look (qau (h.ints hV) ac rfl)) fun u h => ?_); refine yz 3 <| qa <| ysr <| yp 4 [] (.l (h.c 1 2) .z) <| yw [11] (rE ac.last 103) (fun v => ?_) fun v => ?_
 ·refine yz 8 <| yc (rE (qa4 ac.params) 0) (fun o => ?_) fun o => ?_
  ·refine zD [9] h fun u h => yd (uL 0 9) [] (.l (h.tc 0 2) (.i T.cursor.x (60) .z)) <| yK 9 (zTi 0 ({ T with tabs := (fun i => if i = (T.cursor.x : Int).toNat then false else T.tabs i) } : TS) (28 + (T.cursor.x : Int).toNat * 1) [.bool false] h (fun _ _ _ _ => qek T _ _ _ _ _ (by omega) _) fun u h => ?_); refine q9 <| yDe (nB (qB ?_)); refine h.tfin hg ?_; simp [qbv, *]
  refine ysr <| yp 4 [] (.l (h.c 1 2) .z) <| yw [28] (rE ac.last 103) (fun r => ?_) fun r => ?_
  ·refine yz 8 <| yc (rE (qa4 ac.params) 3) (fun k => ?_) fun k => ?_
   ·refine q7 <| yq 4 <| yo (zT 0 ({ T with tabs := (fun _ => false) } : TS) h fun u h => ?_); refine yE (nB (qB ?_)); refine h.tfin hg ?_; simp [qbv, *]
   refine ysr <| yp 4 [] (.l (h.c 1 2) .z) <| yw [40] (rE ac.last 104) (fun g => ?_) fun g => ?_
   ·exfalso; omega
   refine yp 9 [] (.l (h.c 1 2) .z) <| yw [45] (rE ac.last 108) (fun d => ?_) fun d => ?_
   ·exfalso; omega
   refine yz 13 <| ycf <| ysr <| yp 4 [] (.l (h.c 1 2) .z) <| yw [59] (rE ac.last 110) (fun f => ?_) fun f => ?_
   ·exfalso; omega
   refine yz 8 <| ycf <| ysr <| yp 4 [] (.l (h.c 1 2) .z) <| yw [69] (rE ac.last 110) (fun j => ?_) fun j => ?_
   ·exfalso; omega
   refine yz 8 <| ycf <| ysr <| yp 4 [] (.l (h.c 1 2) .z) <| yw [83] (rE ac.last 99) (fun s => ?_) fun s => ?_
   ·exfalso; omega
   refine yz 8 <| ycf <| qk (nB (qB ?_)); refine h.tfin hg ?_; simp [qbv, *]
  exfalso; omega
 refine yz 8 <| ycf <| ysr <| yp 4 [] (.l (h.c 1 2) .z) <| yw [28] (rE ac.last 103) (fun o => ?_) fun o => ?_
 ·exfalso; omega
 refine yz 8 <| ycf <| ysr <| yp 4 [] (.l (h.c 1 2) .z) <| yw [40] (rE ac.last 104) (fun r => ?_) fun r => ?_
 ·refine yz 13 <| yc (rE (qa4 ac.params) 4) (fun k => ?_) fun k => ?_
  ·refine q7 <| yp 6 [] (.l (h.c 1 2) .z) <| yo (zT 0 ({ T with insert := ((ac.last : Int) == 104) } : TS) h fun u h => ?_); refine yE (nB (qB ?_)); refine h.tfin hg ?_; simp [qbv, *]
  refine ysr <| yp 4 [] (.l (h.c 1 2) .z) <| yw [59] (rE ac.last 110) (fun g => ?_) fun g => ?_
  ·exfalso; omega
  refine yz 8 <| ycf <| ysr <| yp 4 [] (.l (h.c 1 2) .z) <| yw [69] (rE ac.last 110) (fun d => ?_) fun d => ?_
  ·exfalso; omega
  refine yz 8 <| ycf <| ysr <| yp 4 [] (.l (h.c 1 2) .z) <| yw [83] (rE ac.last 99) (fun f => ?_) fun f => ?_
  ·exfalso; omega
  refine yz 8 <| ycf <| qk (nB (qB ?_)); refine h.tfin hg ?_; simp [qbv, *]
 refine yp 9 [] (.l (h.c 1 2) .z) <| yw [45] (rE ac.last 108) (fun k => ?_) fun k => ?_
 ·refine yz 13 <| yc (rE (qa4 ac.params) 4) (fun g => ?_) fun g => ?_
  ·refine q7 <| yp 6 [] (.l (h.c 1 2) .z) <| yo (zT 0 ({ T with insert := ((ac.last : Int) == 104) } : TS) h fun u h => ?_); refine yE (nB (qB ?_)); refine h.tfin hg ?_; simp [qbv, *]
  refine ysr <| yp 4 [] (.l (h.c 1 2) .z) <| yw [59] (rE ac.last 110) (fun d => ?_) fun d => ?_
  ·exfalso; omega
  refine yz 8 <| ycf <| ysr <| yp 4 [] (.l (h.c 1 2) .z) <| yw [69] (rE ac.last 110) (fun f => ?_) fun f => ?_
  ·exfalso; omega
  refine yz 8 <| ycf <| ysr <| yp 4 [] (.l (h.c 1 2) .z) <| yw [83] (rE ac.last 99) (fun j => ?_) fun j => ?_
  ·exfalso; omega
  refine yz 8 <| ycf <| qk (nB (qB ?_)); refine h.tfin hg ?_; simp [qbv, *]
 refine yz 13 <| ycf <| ysr <| yp 4 [] (.l (h.c 1 2) .z) <| yw [59] (rE ac.last 110) (fun g => ?_) fun g => ?_
 ·refine yz 8 <| yc (rE (qa4 ac.params) 5) (fun d => ?_) fun d => ?_
  ·refine q7 <| yq 1 <| yo (yQ (h.met 0 fun F hA hF => qes hA (h.lt hg hT) hL  (⟨#[27, 91, 48, 110]⟩ : ByteArray) (by first | decide | (simp only [ByteArray.size_append]; have m : (⟨#[27, 91]⟩ : ByteArray).size = 2 := rfl; have n : (⟨#[82]⟩ : ByteArray).size = 1 := rfl; omega))) fun u h => ?_); refine yE (nB (qB ?_)); refine h.tfin hg ?_; simp [qbv, *]
  refine ysr <| yp 4 [] (.l (h.c 1 2) .z) <| yw [69] (rE ac.last 110) (fun f => ?_) fun f => ?_
  ·refine yz 8 <| yc (rE (qa4 ac.params) 6) (fun j => ?_) fun j => ?_
   ·refine q7 <| yq 2 <| yo (yQ (h.peek 0 fun hI => qio hI (h.lt hg hT) hL) fun u h => ?_); have B := qh1 T; refine yp 5 [] (.p (q := ((⟨#[27, 91]⟩ : ByteArray)).size + ((qce T)).size ≤ 9223372036854775807) (by have m : (⟨#[27, 91]⟩ : ByteArray).size = 2 := rfl; have n : (⟨#[82]⟩ : ByteArray).size = 1 := rfl; first | omega | (rw [ByteArray.size_append]; omega)) (.p (q := (((⟨#[27, 91]⟩ : ByteArray) ++ (qce T))).size + ((⟨#[82]⟩ : ByteArray)).size ≤ 9223372036854775807) (by have m : (⟨#[27, 91]⟩ : ByteArray).size = 2 := rfl; have n : (⟨#[82]⟩ : ByteArray).size = 1 := rfl; first | omega | (rw [ByteArray.size_append]; omega)) .z)) <| yo (yQ (h.met 0 fun F hA hF => qes hA (h.lt hg hT) hL  (((⟨#[27, 91]⟩ : ByteArray) ++ (qce T)) ++ (⟨#[82]⟩ : ByteArray)) (by first | decide | (simp only [ByteArray.size_append]; have m : (⟨#[27, 91]⟩ : ByteArray).size = 2 := rfl; have n : (⟨#[82]⟩ : ByteArray).size = 1 := rfl; omega))) fun u h => ?_); refine yE (nB (qB ?_)); refine h.tfin hg ?_; simp [qbv, *]
   refine ysr <| yp 4 [] (.l (h.c 1 2) .z) <| yw [83] (rE ac.last 99) (fun s => ?_) fun s => ?_
   ·exfalso; omega
   refine yz 8 <| ycf <| qk (nB (qB ?_)); refine h.tfin hg ?_; simp [qbv, *]
  exfalso; omega
 refine yz 8 <| ycf <| ysr <| yp 4 [] (.l (h.c 1 2) .z) <| yw [69] (rE ac.last 110) (fun d => ?_) fun d => ?_
 ·exfalso; omega
 refine yz 8 <| ycf <| ysr <| yp 4 [] (.l (h.c 1 2) .z) <| yw [83] (rE ac.last 99) (fun f => ?_) fun f => ?_
 ·refine yz 8 <| yc (rE (qa4 ac.params) 0) (fun j => ?_) fun j => ?_
  ·refine q7 <| yq 1 <| yo (yQ (h.met 0 fun F hA hF => qes hA (h.lt hg hT) hL  (⟨#[27, 91, 63, 54, 99]⟩ : ByteArray) (by first | decide | (simp only [ByteArray.size_append]; have m : (⟨#[27, 91]⟩ : ByteArray).size = 2 := rfl; have n : (⟨#[82]⟩ : ByteArray).size = 1 := rfl; omega))) fun u h => ?_); refine yE (nB (qB ?_)); refine h.tfin hg ?_; simp [qbv, *]
  refine qk (nB (qB ?_)); refine h.tfin hg ?_; simp [qbv, *]
 refine yz 8 <| ycf <| qk (nB (qB ?_)); refine h.tfin hg ?_; simp [qbv, *]
theorem edit_at {w : World} {t : Nat} {W H : Int} {T : TS} {F : Nat → Prop} (hA0 : TermAt w t T F) (hT : LT w) (hL : Lim W H T) {ao : Option Nat} {an cc : Nat} {ac : Ac} (hV : IntsAt w .i64 ao an cc ac.params (fun b => ¬ F b ∧ b < w.heap.size)) (hV8 : an ≤ 8) (hVb : ∀ x ∈ ac.params, 0 ≤ x ∧ x ≤ 9999) (n : Int) (hn : 0 ≤ n ∧ n ≤ 100000) : Calls Tryz.prog 100 [pX t, .agg #[iX ac.kind, rX ac.rune, uX ac.last, .string ac.marks, .slice (ao.map at0) an cc, .string ac.text], iX n].toArray w fun e w' => e = .returned (.tuple #[]) ∧ TermAt w' t (qat T ac.last n ac.params) (more F w w') ∧ Ch F w w' := by
 have h := Sep.startT hA0; have hg := Gz.of hA0; have hM := hL; have G := hM.all; refine yA Tryz.func100 rfl <| ysr <| yo (zN [iX ac.kind, rX ac.rune, uX ac.last, .string ac.marks, .slice (ao.map at0) an cc, .string ac.text] 90 h fun u I h => ?_); refine ye <| ys <| zDC [18] [0, 1] h fun u h => ydF (uL 0 15) [] h.on (fun u h => (.l (h.tc 0 2) (.l (h.tc 0 3) (.a (h.ts 0 5 5) .z)))) <| yH 15 (zN [.bool false, .bool false, .bool false, iX 0, iX 0] 33 h fun u J h => ?_); refine zHa h <| ydF [16, 17] [] h.on (fun u h => .z) <| yK 18 (zs h 2 fun u h => ?_); refine q9 <| yDe (nS ?_); refine ysr <| yp 7 [] (.l (h.tc 0 26) .z) <| yw [31] (rM T.top T.cursor.y) (fun s => ?_) fun s => ?_
 ·refine yp 15 [] (.l (h.tc 0 27) .z) <| ye <| ysr <| yp 2 [] (.l (h.c 1 2) .z) <| ye <| qa <| yx 2 <| yc (rE ac.last 64) (fun i => ?_) fun i => ?_
  ·obtain ⟨K, L, h⟩ := h.opn 0; refine zD [8] h fun u h => yd (uL 0 8) [] (.l (h.tg 0) (.a (h.cs 2 0 5) .z)) <| yK 8 (yQ (h.grd 0 fun _ hG => qeg _ _ _ (T.cursor.x) (T.cursor.y) (n) T.cursor.sty _ (h.tb hg hT.tb) hG) fun u h => ?_); refine q9 <| yDe (nB (qB ?_)); refine h.tfin hg ?_; simp [qat, *]
  refine yx 2 <| yc (rE ac.last 80) (fun j => ?_) fun j => ?_
  ·obtain ⟨M, N, h⟩ := h.opn 0; refine zD [8] h fun u h => yd (uL 0 8) [] (.l (h.tg 0) (.a (h.cs 2 0 5) .z)) <| yK 8 (yQ (h.grd 0 fun _ hG => qg7 _ _ _ (T.cursor.x) (T.cursor.y) (n) T.cursor.sty _ (h.tb hg hT.tb) hG) fun u h => ?_); refine q9 <| yDe (nB (qB ?_)); refine h.tfin hg ?_; simp [qat, *]
  refine yx 2 <| yc (rE ac.last 88) (fun k => ?_) fun k => ?_
  ·obtain ⟨O, P, h⟩ := h.opn 0; refine zD [10] h fun u h => yd (uL 0 10) [] (.l (h.tg 0) (.q6 (T.cursor.x + n) (.a (h.cs 2 0 5) .z))) <| yK 10 (yQ (h.grd 0 fun _ hG => qag _ _ _ (T.cursor.y) (T.cursor.x) ((T.cursor.x + n)) T.cursor.sty _ (h.tb hg hT.tb) hG) fun u h => ?_); refine q9 <| yDe (nB (qB ?_)); refine h.tfin hg ?_; simp [qat, *]
  refine yx 2 <| yc (rE ac.last 75) (fun m => ?_) fun m => ?_
  ·refine q7 <| yp 2 [] (.a (h.cs 1 0 6) .z) <| yo (yQ (h.look (qau (h.ints hV) ac rfl)) fun u h => ?_); refine yp 6 [] (.q6 (T.cursor.y + 1) .z) ?_; refine yo (yQ (h.met 0 fun F hA hF => qbP hA (h.lt hg hT) hL  ((qa4 ac.params)) (T.cursor.y) ((T.cursor.y + 1)) (by constructor <;> omega)) fun u h => ?_); refine yE (nB (qB ?_)); refine h.tfin hg ?_; simp [qat, *]
  refine yx 2 <| yc (rE ac.last 74) (fun o => ?_) fun o => ?_
  ·refine ys <| ysr <| yp 1 [] (.a (h.cs 1 0 6) .z) <| yo (yQ (h.look (qau (h.ints hV) ac rfl)) fun u h => ?_); refine yz 3 <| yc (rE (qa4 ac.params) 3) (fun d => ?_) fun d => ?_
   ·refine q7 <| yq 3 <| yo (zNil 0 h fun u h => ?_); refine ye ?_; have p : Lim W H ({ T with back := [] } : TS) := { hL with bk := by simp }
    generalize v : ({ T with back := [] } : TS) = A at h p; have B := p; have Q := B.all; obtain ⟨R, S, h⟩ := h.opn 0; refine zDC [10] [0, 1, 2] h fun u h => ydF [0, 1, 3, 4, 5, 6, 7, 8, 9] [] h.on (fun u h => (.a (h.cs 1 0 6) (.l (h.tg 0) (.l (h.gw 0).2 .z)))) <| yH 2 (yQ (h.look (qau (h.ints hV) ac rfl)) fun u h => ?_); refine zH h ?_; refine yK 10 (yQ (h.met 0 fun F hA hF => qbP hA (h.lt hg hT) p  ((qa4 ac.params)) (0) (A.grid.h) (by constructor <;> omega)) fun u h => ?_); refine q9 <| yDe (nB (qB ?_)); subst v; refine h.tfin hg ?_; simp [qat, *]
   refine yk ?_; obtain ⟨U, V, h⟩ := h.opn 0; refine zDC [10] [0, 1, 2] h fun u h => ydF [0, 1, 3, 4, 5, 6, 7, 8, 9] [] h.on (fun u h => (.a (h.cs 1 0 6) (.l (h.tg 0) (.l (h.gw 0).2 .z)))) <| yH 2 (yQ (h.look (qau (h.ints hV) ac rfl)) fun u h => ?_); refine zH h ?_; refine yK 10 (yQ (h.met 0 fun F hA hF => qbP hA (h.lt hg hT) hL  ((qa4 ac.params)) (0) (T.grid.h) (by constructor <;> omega)) fun u h => ?_); refine q9 <| yDe (nB (qB ?_)); refine h.tfin hg ?_; simp [qat, *]
  refine yx 2 <| yc (rE ac.last 76) (fun d => ?_) fun d => ?_
  ·refine yx 1 <| yc (rL T.cursor.y T.bot) (fun f => ?_) fun f => ?_
   ·obtain ⟨X, Y, h⟩ := h.opn 0; refine zD [11] h fun u h => yd (uL 0 11) [] (.l (h.tg 0) (.l (h.tc 0 27) (.a (h.cs 2 0 5) .z))) <| yK 11 (yQ (h.grd 0 fun _ hG => qcV _ _ _ (T.cursor.y) (T.bot) (n) T.cursor.sty _ (h.tb hg hT.tb) hG) fun u h => ?_); refine q9 <| yDe (nB (qB ?_)); refine h.tfin hg ?_; simp [qat, *]
   refine qk (nB (qB ?_)); refine h.tfin hg ?_; simp [qat, *]
  refine yx 2 <| yc (rE ac.last 77) (fun f => ?_) fun f => ?_
  ·refine yx 1 <| yc (rL T.cursor.y T.bot) (fun g => ?_) fun g => ?_
   ·obtain ⟨Z, a0, h⟩ := h.opn 0; refine zD [11] h fun u h => yd (uL 0 11) [] (.l (h.tg 0) (.l (h.tc 0 27) (.a (h.cs 2 0 5) .z))) <| yK 11 (yC (h.grdV 0 fun _ hG => up_any2 _ _ _ (T.cursor.y) (T.bot) (n) T.cursor.sty _ (h.tb hg hT.tb) hG) ?_); rintro _ u ⟨a1, rfl, h⟩; refine ⟨_, rfl, ?_⟩; refine q9 <| yDe (nB (qB ?_)); refine h.tfin hg ?_; simp [qat, *]
   refine qk (nB (qB ?_)); refine h.tfin hg ?_; simp [qat, *]
  refine yx 2 <| yc (rE ac.last 83) (fun g => ?_) fun g => ?_
  ·refine q7 <| yq 2 <| yo (yQ (h.met 0 fun F hA hF => qdW hA (h.tb hg hT.tb) hL  (n)) fun u h => ?_); refine yE (nB (qB ?_)); refine h.tfin hg ?_; simp [qat, *]
  refine yx 2 <| yc (rE ac.last 84) (fun q => ?_) fun q => ?_
  ·obtain ⟨a2, a3, h⟩ := h.opn 0; refine zD [14] h fun u h => yd (uL 0 14) [] (.l (h.tg 0) (.l (h.tc 0 26) (.l (h.tc 0 27) (.a (h.cs 2 0 5) .z)))) <| yK 14 (yQ (h.grd 0 fun _ hG => qcV _ _ _ (T.top) (T.bot) (n) T.cursor.sty _ (h.tb hg hT.tb) hG) fun u h => ?_); refine q9 <| yDe (nB (qB ?_)); refine h.tfin hg ?_; simp [qat, *]
  refine q7 <| yp 2 [] (.a (h.cs 1 0 6) .z) <| yo (yQ (h.met 0 fun F hA hF => qip hA (h.lt hg hT) hL  (h.intsF hV hF) hV8 hVb) fun u h => ?_); refine yE (nB (qB ?_)); refine h.tfin hg ?_; simp [qat, *]
 refine yz 15 <| ysr <| yp 2 [] (.l (h.c 1 2) .z) <| ye <| qa <| yx 2 <| yc (rE ac.last 64) (fun i => ?_) fun i => ?_
 ·obtain ⟨a4, a5, h⟩ := h.opn 0; refine zD [8] h fun u h => yd (uL 0 8) [] (.l (h.tg 0) (.a (h.cs 2 0 5) .z)) <| yK 8 (yQ (h.grd 0 fun _ hG => qeg _ _ _ (T.cursor.x) (T.cursor.y) (n) T.cursor.sty _ (h.tb hg hT.tb) hG) fun u h => ?_); refine q9 <| yDe (nB (qB ?_)); refine h.tfin hg ?_; simp [qat, *]
 refine yx 2 <| yc (rE ac.last 80) (fun j => ?_) fun j => ?_
 ·obtain ⟨a6, a7, h⟩ := h.opn 0; refine zD [8] h fun u h => yd (uL 0 8) [] (.l (h.tg 0) (.a (h.cs 2 0 5) .z)) <| yK 8 (yQ (h.grd 0 fun _ hG => qg7 _ _ _ (T.cursor.x) (T.cursor.y) (n) T.cursor.sty _ (h.tb hg hT.tb) hG) fun u h => ?_); refine q9 <| yDe (nB (qB ?_)); refine h.tfin hg ?_; simp [qat, *]
 refine yx 2 <| yc (rE ac.last 88) (fun k => ?_) fun k => ?_
 ·obtain ⟨a8, a9, h⟩ := h.opn 0; refine zD [10] h fun u h => yd (uL 0 10) [] (.l (h.tg 0) (.q6 (T.cursor.x + n) (.a (h.cs 2 0 5) .z))) <| yK 10 (yQ (h.grd 0 fun _ hG => qag _ _ _ (T.cursor.y) (T.cursor.x) ((T.cursor.x + n)) T.cursor.sty _ (h.tb hg hT.tb) hG) fun u h => ?_); refine q9 <| yDe (nB (qB ?_)); refine h.tfin hg ?_; simp [qat, *]
 refine yx 2 <| yc (rE ac.last 75) (fun m => ?_) fun m => ?_
 ·refine q7 <| yp 2 [] (.a (h.cs 1 0 6) .z) <| yo (yQ (h.look (qau (h.ints hV) ac rfl)) fun u h => ?_); refine yp 6 [] (.q6 (T.cursor.y + 1) .z) ?_; refine yo (yQ (h.met 0 fun F hA hF => qbP hA (h.lt hg hT) hL  ((qa4 ac.params)) (T.cursor.y) ((T.cursor.y + 1)) (by constructor <;> omega)) fun u h => ?_); refine yE (nB (qB ?_)); refine h.tfin hg ?_; simp [qat, *]
 refine yx 2 <| yc (rE ac.last 74) (fun o => ?_) fun o => ?_
 ·refine ys <| ysr <| yp 1 [] (.a (h.cs 1 0 6) .z) <| yo (yQ (h.look (qau (h.ints hV) ac rfl)) fun u h => ?_); refine yz 3 <| yc (rE (qa4 ac.params) 3) (fun d => ?_) fun d => ?_
  ·refine q7 <| yq 3 <| yo (zNil 0 h fun u h => ?_); refine ye ?_; have r : Lim W H ({ T with back := [] } : TS) := { hL with bk := by simp }
   generalize C : ({ T with back := [] } : TS) = D at h r; have E := r; have aa := E.all; obtain ⟨ab, ad, h⟩ := h.opn 0; refine zDC [10] [0, 1, 2] h fun u h => ydF [0, 1, 3, 4, 5, 6, 7, 8, 9] [] h.on (fun u h => (.a (h.cs 1 0 6) (.l (h.tg 0) (.l (h.gw 0).2 .z)))) <| yH 2 (yQ (h.look (qau (h.ints hV) ac rfl)) fun u h => ?_); refine zH h ?_; refine yK 10 (yQ (h.met 0 fun F hA hF => qbP hA (h.lt hg hT) r  ((qa4 ac.params)) (0) (D.grid.h) (by constructor <;> omega)) fun u h => ?_); refine q9 <| yDe (nB (qB ?_)); subst C; refine h.tfin hg ?_; simp [qat, *]
  refine yk ?_; obtain ⟨ae, af, h⟩ := h.opn 0; refine zDC [10] [0, 1, 2] h fun u h => ydF [0, 1, 3, 4, 5, 6, 7, 8, 9] [] h.on (fun u h => (.a (h.cs 1 0 6) (.l (h.tg 0) (.l (h.gw 0).2 .z)))) <| yH 2 (yQ (h.look (qau (h.ints hV) ac rfl)) fun u h => ?_); refine zH h ?_; refine yK 10 (yQ (h.met 0 fun F hA hF => qbP hA (h.lt hg hT) hL  ((qa4 ac.params)) (0) (T.grid.h) (by constructor <;> omega)) fun u h => ?_); refine q9 <| yDe (nB (qB ?_)); refine h.tfin hg ?_; simp [qat, *]
 refine yx 2 <| yc (rE ac.last 76) (fun d => ?_) fun d => ?_
 ·refine yx 1 <| ycf <| qk (nB (qB ?_)); refine h.tfin hg ?_; simp [qat, *]
 refine yx 2 <| yc (rE ac.last 77) (fun f => ?_) fun f => ?_
 ·refine yx 1 <| ycf <| qk (nB (qB ?_)); refine h.tfin hg ?_; simp [qat, *]
 refine yx 2 <| yc (rE ac.last 83) (fun g => ?_) fun g => ?_
 ·refine q7 <| yq 2 <| yo (yQ (h.met 0 fun F hA hF => qdW hA (h.tb hg hT.tb) hL  (n)) fun u h => ?_); refine yE (nB (qB ?_)); refine h.tfin hg ?_; simp [qat, *]
 refine yx 2 <| yc (rE ac.last 84) (fun q => ?_) fun q => ?_
 ·obtain ⟨ag, ah, h⟩ := h.opn 0; refine zD [14] h fun u h => yd (uL 0 14) [] (.l (h.tg 0) (.l (h.tc 0 26) (.l (h.tc 0 27) (.a (h.cs 2 0 5) .z)))) <| yK 14 (yQ (h.grd 0 fun _ hG => qcV _ _ _ (T.top) (T.bot) (n) T.cursor.sty _ (h.tb hg hT.tb) hG) fun u h => ?_); refine q9 <| yDe (nB (qB ?_)); refine h.tfin hg ?_; simp [qat, *]
 refine q7 <| yp 2 [] (.a (h.cs 1 0 6) .z) <| yo (yQ (h.met 0 fun F hA hF => qip hA (h.lt hg hT) hL  (h.intsF hV hF) hV8 hVb) fun u h => ?_); refine yE (nB (qB ?_)); refine h.tfin hg ?_; simp [qat, *]
theorem qb7 {w : World} {t : Nat} {W H : Int} {T : TS} {F : Nat → Prop} (hA : TermAt w t T F) (hT : qR w) (hL : Lim W H T) (x y : Int) (hx : -100000 ≤ x ∧ x ≤ 100000) (hy : -100000 ≤ y ∧ y ≤ 100000) : Calls Tryz.prog 98 [pX t, iX x, iX y].toArray w fun e w' => e = .returned (.tuple #[]) ∧ TermAt w' t (qcN T x y) (more F w w') ∧ Ch F w w' :=
  home_at hA (by have := hL.tb; have := hL.hb; omega) x y (by omega) (by omega)
theorem plain_at {w : World} {t : Nat} {W H : Int} {T : TS} {F : Nat → Prop} (hA0 : TermAt w t T F) (hT : LT w) (hL : Lim W H T) {ao : Option Nat} {an cc : Nat} {ac : Ac} (hV : IntsAt w .i64 ao an cc ac.params (fun b => ¬ F b ∧ b < w.heap.size)) (hV8 : an ≤ 8) (hVb : ∀ x ∈ ac.params, 0 ≤ x ∧ x ≤ 9999) : Calls Tryz.prog 85 [pX t, .agg #[iX ac.kind, rX ac.rune, uX ac.last, .string ac.marks, .slice (ao.map at0) an cc, .string ac.text]].toArray w fun e w' => e = .returned (.tuple #[]) ∧ TermAt w' t (qU T ac.last ac.params) (more F w w') ∧ Ch F w w' := by
 have h := Sep.startT hA0; have hg := Gz.of hA0; have hM := hL; have M := hM.all; have N := qcA ac.params 0; have O := qfd hVb 0; have P := qcA ac.params 1; have Q := qfd hVb 1; refine yA Tryz.func85 rfl <| ysr <| yo (zN [iX ac.kind, rX ac.rune, uX ac.last, .string ac.marks, .slice (ao.map at0) an cc, .string ac.text] 90 h fun u R h => ?_); refine ye <| ysr <| yp 1 [] (.a (h.cs 1 0 6) .z) <| yo (yQ (h.look (qdi (h.ints hV) ac rfl 0)) fun u h => ?_); refine yz 3 <| ys <| zD [] h fun u h => yd (uL 0 12) [] (.l (h.tc 0 2) (.l (h.tc 0 3) .z)) <| yDe (nS ?_); refine ysr <| yp 2 [] (.l (h.c 1 2) .z) <| ye <| qa <| yx 2 <| yc (rE ac.last 65) (fun q => ?_) fun q => ?_
 ·refine yx 1 <| ys <| ysr <| yp 6 [] (.l (h.tc 0 26) .z) <| ye <| yc (rM T.top T.cursor.y) (fun g => ?_) fun g => ?_
  ·refine q7 <| yp 5 [] (.l (h.tc 0 26) .z) <| ye <| q7 <| yp 7 [] (.q6 (T.cursor.y - (qh ac.params 0)) .z) <| yo (yQ (h.met 0 fun F hA hF => qW hA (h.tb hg hT.tb) hL  (T.cursor.x) ((max ((T.cursor.y - (qh ac.params 0)) : Int) T.top))) fun u h => ?_); refine yE (nB (qB ?_)); refine h.tfin hg ?_; simp [qU, *]
  refine yk <| q7 <| yp 7 [] (.q6 (T.cursor.y - (qh ac.params 0)) .z) <| yo (yQ (h.met 0 fun F hA hF => qW hA (h.tb hg hT.tb) hL  (T.cursor.x) ((max ((T.cursor.y - (qh ac.params 0)) : Int) 0))) fun u h => ?_); refine yE (nB (qB ?_)); refine h.tfin hg ?_; simp [qU, *]
 refine ys <| yx 2 <| yc (rE ac.last 66) (fun g => ?_) fun g => ?_
 ·refine yk <| yc (rE ac.last 66) (fun j => ?_) fun j => ?_
  ·refine ysr ?_; obtain ⟨S, U, h⟩ := h.opn 0; refine yp 8 [] (.l (h.tg 0) (.l (h.gw 0).2 .z)) <| ye <| ys <| ysr <| yp 6 [] (.l (h.tc 0 27) .z) <| ye <| yc (rL T.cursor.y T.bot) (fun d => ?_) fun d => ?_
   ·refine q7 <| yp 5 [] (.l (h.tc 0 27) .z) <| ye <| q7 <| yp 8 [] (.q6 (T.cursor.y + (qh ac.params 0)) (.q6 (T.bot - 1) .z)) <| yo (yQ (h.met 0 fun F hA hF => qW hA (h.tb hg hT.tb) hL  (T.cursor.x) ((min ((T.cursor.y + (qh ac.params 0)) : Int) (T.bot - 1)))) fun u h => ?_); refine yE (nB (qB ?_)); refine h.tfin hg ?_; simp [qU, *]
   refine yk <| q7 <| yp 8 [] (.q6 (T.cursor.y + (qh ac.params 0)) (.q6 (T.grid.h - 1) .z)) <| yo (yQ (h.met 0 fun F hA hF => qW hA (h.tb hg hT.tb) hL  (T.cursor.x) ((min ((T.cursor.y + (qh ac.params 0)) : Int) (T.grid.h - 1)))) fun u h => ?_); refine yE (nB (qB ?_)); refine h.tfin hg ?_; simp [qU, *]
  exfalso; omega
 refine q7 <| yz 2 <| yc (rE ac.last 101) (fun j => ?_) fun j => ?_
 ·refine ysr ?_; obtain ⟨V, X, h⟩ := h.opn 0; refine yp 8 [] (.l (h.tg 0) (.l (h.gw 0).2 .z)) <| ye <| ys <| ysr <| yp 6 [] (.l (h.tc 0 27) .z) <| ye <| yc (rL T.cursor.y T.bot) (fun d => ?_) fun d => ?_
  ·refine q7 <| yp 5 [] (.l (h.tc 0 27) .z) <| ye <| q7 <| yp 8 [] (.q6 (T.cursor.y + (qh ac.params 0)) (.q6 (T.bot - 1) .z)) <| yo (yQ (h.met 0 fun F hA hF => qW hA (h.tb hg hT.tb) hL  (T.cursor.x) ((min ((T.cursor.y + (qh ac.params 0)) : Int) (T.bot - 1)))) fun u h => ?_); refine yE (nB (qB ?_)); refine h.tfin hg ?_; simp [qU, *]
  refine yk <| q7 <| yp 8 [] (.q6 (T.cursor.y + (qh ac.params 0)) (.q6 (T.grid.h - 1) .z)) <| yo (yQ (h.met 0 fun F hA hF => qW hA (h.tb hg hT.tb) hL  (T.cursor.x) ((min ((T.cursor.y + (qh ac.params 0)) : Int) (T.grid.h - 1)))) fun u h => ?_); refine yE (nB (qB ?_)); refine h.tfin hg ?_; simp [qU, *]
 refine ys <| yx 2 <| yc (rE ac.last 67) (fun d => ?_) fun d => ?_
 ·refine yk <| yc (rE ac.last 67) (fun k => ?_) fun k => ?_
  ·refine q7 <| yp 5 [] (.q6 (T.cursor.x + (qh ac.params 0)) .z) <| yo (yQ (h.met 0 fun F hA hF => qW hA (h.tb hg hT.tb) hL  ((T.cursor.x + (qh ac.params 0))) (T.cursor.y)) fun u h => ?_); refine yE (nB (qB ?_)); refine h.tfin hg ?_; simp [qU, *]
  exfalso; omega
 refine q7 <| yz 2 <| yc (rE ac.last 97) (fun k => ?_) fun k => ?_
 ·refine q7 <| yp 5 [] (.q6 (T.cursor.x + (qh ac.params 0)) .z) <| yo (yQ (h.met 0 fun F hA hF => qW hA (h.tb hg hT.tb) hL  ((T.cursor.x + (qh ac.params 0))) (T.cursor.y)) fun u h => ?_); refine yE (nB (qB ?_)); refine h.tfin hg ?_; simp [qU, *]
 refine yx 2 <| yc (rE ac.last 68) (fun r => ?_) fun r => ?_
 ·refine q7 <| yp 5 [] (.q6 (T.cursor.x - (qh ac.params 0)) .z) <| yo (yQ (h.met 0 fun F hA hF => qW hA (h.tb hg hT.tb) hL  ((T.cursor.x - (qh ac.params 0))) (T.cursor.y)) fun u h => ?_); refine yE (nB (qB ?_)); refine h.tfin hg ?_; simp [qU, *]
 refine ys <| yx 2 <| yc (rE ac.last 71) (fun s => ?_) fun s => ?_
 ·refine yk <| yc (rE ac.last 71) (fun m => ?_) fun m => ?_
  ·refine q7 <| yp 4 [] (.q6 ((qh ac.params 0) - 1) .z) <| yo (yQ (h.met 0 fun F hA hF => qW hA (h.tb hg hT.tb) hL  (((qh ac.params 0) - 1)) (T.cursor.y)) fun u h => ?_); refine yE (nB (qB ?_)); refine h.tfin hg ?_; simp [qU, *]
  exfalso; omega
 refine q7 <| yz 2 <| yc (rE ac.last 96) (fun m => ?_) fun m => ?_
 ·refine q7 <| yp 4 [] (.q6 ((qh ac.params 0) - 1) .z) <| yo (yQ (h.met 0 fun F hA hF => qW hA (h.tb hg hT.tb) hL  (((qh ac.params 0) - 1)) (T.cursor.y)) fun u h => ?_); refine yE (nB (qB ?_)); refine h.tfin hg ?_; simp [qU, *]
 refine yx 2 <| yc (rE ac.last 100) (fun v => ?_) fun v => ?_
 ·refine q7 <| yp 4 [] (.q6 (T.cursor.x + 1) .z) ?_; refine yo (yQ (h.met 0 fun F hA hF => qb7 hA (h.tb hg hT.tb) hL  ((T.cursor.x + 1)) ((qh ac.params 0)) (by constructor <;> omega) (by constructor <;> omega)) fun u h => ?_); refine yE (nB (qB ?_)); refine h.tfin hg ?_; simp [qU, *]
 refine ys <| yx 2 <| yc (rE ac.last 72) (fun A => ?_) fun A => ?_
 ·refine yk <| yc (rE ac.last 72) (fun n => ?_) fun n => ?_
  ·refine q7 <| yp 2 [] (.a (h.cs 1 0 6) .z) <| yo (yQ (h.look (qdi (h.ints hV) ac rfl 1)) fun u h => ?_); refine yq 4 ?_; refine yo (yQ (h.met 0 fun F hA hF => qb7 hA (h.tb hg hT.tb) hL  ((qh ac.params 1)) ((qh ac.params 0)) (by constructor <;> omega) (by constructor <;> omega)) fun u h => ?_); refine yE (nB (qB ?_)); refine h.tfin hg ?_; simp [qU, *]
  exfalso; omega
 refine q7 <| yz 2 <| yc (rE ac.last 102) (fun n => ?_) fun n => ?_
 ·refine q7 <| yp 2 [] (.a (h.cs 1 0 6) .z) <| yo (yQ (h.look (qdi (h.ints hV) ac rfl 1)) fun u h => ?_); refine yq 4 ?_; refine yo (yQ (h.met 0 fun F hA hF => qb7 hA (h.tb hg hT.tb) hL  ((qh ac.params 1)) ((qh ac.params 0)) (by constructor <;> omega) (by constructor <;> omega)) fun u h => ?_); refine yE (nB (qB ?_)); refine h.tfin hg ?_; simp [qU, *]
 refine yx 2 <| yc (rE ac.last 109) (fun B => ?_) fun B => ?_
 ·refine zD [8, 12] h fun u h => yd (uL 0 8) [] (.a (h.ts 0 5 5) (.l (h.c 1 4) .z)) <| yK 8 (yQ (h.look (qfN (h.ints hV) T.cursor.sty (by omega))) fun u h => ?_); refine q9 <| yd (uL 9 3) [] .z <| yK 12 (zT 0 ({ T with cursor := (Cur.mk T.cursor.x T.cursor.y T.cursor.late (qbN T.cursor.sty ac.params)) } : TS) h fun u h => ?_); refine q9 <| yDe (nB (qB ?_)); refine h.tfin hg ?_; simp [qU, *]
 refine yx 2 <| yc (rE ac.last 114) (fun C => ?_) fun C => ?_
 ·rcases ao with _ | ab
  ·have G : ac.params = [] := by have := hV.1.1 rfl; simpa using this
   have Y : an = 0 := by have := hV.2.1; rw [G] at this; exact this.symm
   have D : ac.params.length = an := hV.2.1; refine ysr ?_; obtain ⟨Z, a0, h⟩ := h.opn 0; refine yp 8 [] (.l (h.tg 0) (.l (h.gw 0).2 .z)) <| ye <| ys <| ysr <| yp 5 [] (.l (h.c 1 4) .z) <| yw [144] (rL 1 ((an : Nat) : Int)) (fun p => ?_) fun p => ?_
   ·exfalso; omega
   refine yz 11 <| ycf <| yk <| yx 3 <| yc (rL (qh ac.params 0) T.grid.h) (fun f => ?_) fun f => ?_
   ·refine ysr <| yp 7 [] (.q6 ((qh ac.params 0) - 1) .z) <| yo (zT 0 ({ T with top := ((qh ac.params 0) - 1) } : TS) h fun u h => ?_); refine yq 10 <| yo (zT 0 ({ T with top := ((qh ac.params 0) - 1), bot := T.grid.h } : TS) h fun u h => ?_); refine ye <| q7 <| yq 1 ?_; have I : Lim W H ({ T with top := ((qh ac.params 0) - 1), bot := T.grid.h } : TS) := { hL with tb := ⟨(show (0 : Int) ≤ ((qh ac.params 0) - 1) by omega), (show (((qh ac.params 0) - 1) : Int) < T.grid.h by omega), (show (T.grid.h : Int) ≤ H by omega)⟩ }
    refine yo (yQ (h.met 0 fun F hA hF => qb7 hA (h.tb hg hT.tb) I  (1) (1) (by constructor <;> omega) (by constructor <;> omega)) fun u h => ?_); refine yE (nB (qB ?_)); refine h.tfin hg ?_; simp only [qU, q, g, j, d, k, r, s, m, v, A, n, B, C, p, f, D, ↓reduceIte, Int.reduceEq, Int.reduceLT, Int.reduceLE, sB]
   refine qk (nB (qB ?_)); refine h.tfin hg ?_; simp only [qU, q, g, j, d, k, r, s, m, v, A, n, B, C, p, f, D, ↓reduceIte, Int.reduceEq, Int.reduceLT, Int.reduceLE, sB]
  have D : ac.params.length = an := hV.2.1; have a1 := qa0 hVb (by decide) 1; refine ysr ?_; obtain ⟨a2, a3, h⟩ := h.opn 0; refine yp 8 [] (.l (h.tg 0) (.l (h.gw 0).2 .z)) <| ye <| ys <| ysr <| yp 5 [] (.l (h.c 1 4) .z) <| yw [144] (rL 1 ((an : Nat) : Int)) (fun p => ?_) fun p => ?_
  ·refine yp 11 [] (.l (h.c 1 4) (.i 1 (an) (.l (o := 1) (qem (h.ints hV).1 1 (by omega)) .z))) <| ye <| yc (rL 0 (ac.params.getD 1 0)) (fun f => ?_) fun f => ?_
   ·refine zD [] h fun u h => yd (uL 0 13) [] (.l (h.c 1 4) (.i 1 (an) (.l (o := 1) (qem (h.ints hV).1 1 (by omega)) (.l (h.tg 0) (.l (h.gw 0).2 .z))))) <| yDe (nS ?_); refine yx 3 <| yc (rL (qh ac.params 0) (min ((ac.params.getD 1 0) : Int) T.grid.h)) (fun E => ?_) fun E => ?_
    ·refine ysr <| yp 7 [] (.q6 ((qh ac.params 0) - 1) .z) <| yo (zT 0 ({ T with top := ((qh ac.params 0) - 1) } : TS) h fun u h => ?_); refine yq 10 <| yo (zT 0 ({ T with top := ((qh ac.params 0) - 1), bot := (min ((ac.params.getD 1 0) : Int) T.grid.h) } : TS) h fun u h => ?_); refine ye <| q7 <| yq 1 ?_; have J : Lim W H ({ T with top := ((qh ac.params 0) - 1), bot := (min ((ac.params.getD 1 0) : Int) T.grid.h) } : TS) := { hL with tb := ⟨(show (0 : Int) ≤ ((qh ac.params 0) - 1) by omega), (show (((qh ac.params 0) - 1) : Int) < (min ((ac.params.getD 1 0) : Int) T.grid.h) by omega), (show ((min ((ac.params.getD 1 0) : Int) T.grid.h) : Int) ≤ H by omega)⟩ }
     refine yo (yQ (h.met 0 fun F hA hF => qb7 hA (h.tb hg hT.tb) J  (1) (1) (by constructor <;> omega) (by constructor <;> omega)) fun u h => ?_); refine yE (nB (qB ?_)); refine h.tfin hg ?_; simp only [qU, q, g, j, d, k, r, s, m, v, A, n, B, C, p, f, E, D, ↓reduceIte, Int.reduceEq, Int.reduceLT, Int.reduceLE, sB]
    refine qk (nB (qB ?_)); refine h.tfin hg ?_; simp only [qU, q, g, j, d, k, r, s, m, v, A, n, B, C, p, f, E, D, ↓reduceIte, Int.reduceEq, Int.reduceLT, Int.reduceLE, sB]
   refine yk <| yx 3 <| yc (rL (qh ac.params 0) T.grid.h) (fun E => ?_) fun E => ?_
   ·refine ysr <| yp 7 [] (.q6 ((qh ac.params 0) - 1) .z) <| yo (zT 0 ({ T with top := ((qh ac.params 0) - 1) } : TS) h fun u h => ?_); refine yq 10 <| yo (zT 0 ({ T with top := ((qh ac.params 0) - 1), bot := T.grid.h } : TS) h fun u h => ?_); refine ye <| q7 <| yq 1 ?_; have K : Lim W H ({ T with top := ((qh ac.params 0) - 1), bot := T.grid.h } : TS) := { hL with tb := ⟨(show (0 : Int) ≤ ((qh ac.params 0) - 1) by omega), (show (((qh ac.params 0) - 1) : Int) < T.grid.h by omega), (show (T.grid.h : Int) ≤ H by omega)⟩ }
    refine yo (yQ (h.met 0 fun F hA hF => qb7 hA (h.tb hg hT.tb) K  (1) (1) (by constructor <;> omega) (by constructor <;> omega)) fun u h => ?_); refine yE (nB (qB ?_)); refine h.tfin hg ?_; simp only [qU, q, g, j, d, k, r, s, m, v, A, n, B, C, p, f, E, D, ↓reduceIte, Int.reduceEq, Int.reduceLT, Int.reduceLE, sB]
   refine qk (nB (qB ?_)); refine h.tfin hg ?_; simp only [qU, q, g, j, d, k, r, s, m, v, A, n, B, C, p, f, E, D, ↓reduceIte, Int.reduceEq, Int.reduceLT, Int.reduceLE, sB]
  refine yz 11 <| ycf <| yk <| yx 3 <| yc (rL (qh ac.params 0) T.grid.h) (fun f => ?_) fun f => ?_
  ·refine ysr <| yp 7 [] (.q6 ((qh ac.params 0) - 1) .z) <| yo (zT 0 ({ T with top := ((qh ac.params 0) - 1) } : TS) h fun u h => ?_); refine yq 10 <| yo (zT 0 ({ T with top := ((qh ac.params 0) - 1), bot := T.grid.h } : TS) h fun u h => ?_); refine ye <| q7 <| yq 1 ?_; have L : Lim W H ({ T with top := ((qh ac.params 0) - 1), bot := T.grid.h } : TS) := { hL with tb := ⟨(show (0 : Int) ≤ ((qh ac.params 0) - 1) by omega), (show (((qh ac.params 0) - 1) : Int) < T.grid.h by omega), (show (T.grid.h : Int) ≤ H by omega)⟩ }
   refine yo (yQ (h.met 0 fun F hA hF => qb7 hA (h.tb hg hT.tb) L  (1) (1) (by constructor <;> omega) (by constructor <;> omega)) fun u h => ?_); refine yE (nB (qB ?_)); refine h.tfin hg ?_; simp only [qU, q, g, j, d, k, r, s, m, v, A, n, B, C, p, f, D, ↓reduceIte, Int.reduceEq, Int.reduceLT, Int.reduceLE, sB]
  refine qk (nB (qB ?_)); refine h.tfin hg ?_; simp only [qU, q, g, j, d, k, r, s, m, v, A, n, B, C, p, f, D, ↓reduceIte, Int.reduceEq, Int.reduceLT, Int.reduceLE, sB]
 refine q7 <| yp 3 [] (.a (h.cs 1 0 6) .z) <| yo (yQ (h.met 0 fun F hA hF => edit_at hA (h.lt hg hT) hL  (h.intsF hV hF) hV8 hVb ((qh ac.params 0)) (by omega)) fun u h => ?_); refine yE (nB (qB ?_)); refine h.tfin hg ?_; simp [qU, *]
theorem turn_at {w : World} {t : Nat} {W H : Int} {T : TS} {F : Nat → Prop} (hA0 : TermAt w t T F) (hT : LT w) (hL : Lim W H T) (b : Bool) : Calls Tryz.prog 101 [pX t, .bool b].toArray w fun e w' => e = .returned (.tuple #[]) ∧ TermAt w' t (qik T b) (more F w w') ∧ Ch F w w' := by
 obtain ⟨g, o, ba, bn, bc, pa, pn, pc, F1, F2, FB, FP, hI⟩ := hA0; have hA0 : TermAt w t T F := ⟨g, o, ba, bn, bc, pa, pn, pc, F1, F2, FB, FP, hI⟩
 have s := hI.inF.1; obtain ⟨gv, aZ⟩ := hI.g1.head; have b0 : Df t g := fun e => hI.t1 (e ▸ hI.g1.inF); obtain ⟨⟨b1, b2⟩, ⟨b3, b4⟩, b5, b6⟩ := hI.g1.ok; have ac := hL; have b7 := ac.all; obtain ⟨b8, ad⟩ := hI.g2.head; have f : Df t o := fun e => hI.t2 (e ▸ hI.g2.inF); refine yA Tryz.func101 rfl <| ys <| ysr <| yp 6 [] (.l (hI.blk.c 95) .z) <| ye <| yc (rY (b == T.alt)) (fun m => ?_) fun m => ?_
 ·refine q8 (rS (yR0 ?_)); have N := hI.cht (Ch.refl (· = t) w); have ae := hI.pk1 hI N; refine ⟨rfl, TermAt.eq' ae ?_, N⟩; exact if_pos m
 refine yk <| ysr <| yq 4 <| yo (yS hI.blk fun b9 af O => ?_); have ag := zt (Ch.refl (· = t) w) O (fun i hi (h : i = t) => h); have ah := ad.ch O (fun h => f h.symm); refine ye <| ys <| yD [12, 15] fun bb bd v => ?_; have ai := zt ag v eZ; have aj := ah.ch v id; have A := af.ch v id; refine yd (uL 0 12) [] (.l (A.c 1) (.l (A.c 0) .z)) <| yK 12 (yS A fun bf ak P => ?_); have al := zt ai P (fun i hi (h : i = t) => h); have am := aj.ch P (fun h => f h.symm); refine q9 <| yd [13, 14] [] .z <| yK 15 (yS ak fun bg an Q => ?_); have ao := zt al Q (fun i hi (h : i = t) => h); have ap := am.ch Q (fun h => f h.symm); refine q9 <| yDe (nS ?_); refine ys <| yD [12, 15] fun bh bi B => ?_; have aq := zt ao B eZ; have ar := ap.ch B id; have au := an.ch B id; have C : Blk _ t (TS.vals ({ T with grid := T.other, other := T.grid, alt := b } : TS) o g (.slice ba bn bc) (.slice pa pn pc)) qbo := Blk.to au (by kernel_rfl); refine yd (uL 0 12) [] (.a (C.cs 18 8) (.a (C.cs 2 8) .z)) <| yK 12 (yS C fun bj av R => ?_); have ax := zt aq R (fun i hi (h : i = t) => h); have ay := ar.ch R (fun h => f h.symm); refine q9 <| yd [13, 14] [] .z <| yK 15 (yS av fun bk S U => ?_); have D := zt ax U (fun i hi (h : i = t) => h); have az := ay.ch U (fun h => f h.symm); refine q9 <| yDe (nS ?_); refine yx 1 <| yc (rY b) (fun E => ?_) fun E => ?_
 ·refine ysr ?_; have V : Blk _ t (TS.vals ({ T with grid := T.other, other := T.grid, cursor := T.away, away := T.cursor, alt := b } : TS) o g (.slice ba bn bc) (.slice pa pn pc)) qbo := Blk.to S (by kernel_rfl); refine yp 7 [] (.a (V.cs 18 8) .z) <| yo (yS V fun bl X Y => ?_); have Z := zt D Y (fun i hi (h : i = t) => h); have aA := az.ch Y (fun h => f h.symm); refine ye <| ysr <| yp 8 [] (.l (X.c 0) (.l (aA.c 1) .z)) <| ye <| qa ?_; have aB : Lim W H ({ T with grid := T.other, other := T.grid, away := T.cursor, alt := b } : TS) := { hL with aw := ⟨⟨(show (0 : Int) ≤ T.cursor.x by omega), (show (T.cursor.x : Int) < W by omega)⟩, (show (0 : Int) ≤ T.cursor.y by omega), (show (T.cursor.y : Int) < H by omega)⟩, g1 := ⟨hL.g2.1, hL.g2.2⟩, g2 := ⟨hL.g1.1, hL.g1.2⟩ }
  have aC := hI.swap (T' := ({ T with grid := T.other, other := T.grid, away := T.cursor, alt := b } : TS)) Z (Blk.to X (by kernel_rfl)) rfl rfl rfl rfl; have a0 := hI.cht Z; have aD := aC.pk1 hI a0; refine qa2 [0, 57, 58] (f' := [(0, pX t), (57, iX T.other.h), (58, iX 0)]) <| qG (σ := Nat) (fun k => [(0, pX t), (57, iX T.other.h), (58, iX ((k : Nat) : Int))]) (fun k u => k ≤ T.other.h.toNat ∧ (TermAt u t (qer ({ T with grid := T.other, other := T.grid, away := T.cursor, alt := b } : TS) k) (more F w u) ∧ Ch F w u)) (fun k => T.other.h.toNat - k) 0 rfl ?_ ?_
  ·exact ⟨Nat.zero_le _, (TermAt.eq' aD rfl), a0⟩
  intro k G aE bm aF; obtain ⟨hk, a1, I⟩ := aE; have aG := qq I hT (fun b hb => hI.hi b hb); have J : Lim W H (qer ({ T with grid := T.other, other := T.grid, away := T.cursor, alt := b } : TS) k) := (qgZ aB k)
  generalize a2 : (qer ({ T with grid := T.other, other := T.grid, away := T.cursor, alt := b } : TS) k) = d at a1 J; have aH := J; have bo := aH.all; obtain ⟨aI, bp, bq, br, bs, bt, bu, bv, bw, bx, bz, bA, j⟩ := a1; obtain ⟨bB, aJ⟩ := j.g1.head; have bC : Df t aI := fun e => j.t1 (e ▸ j.g1.inF); refine yx 1 <| ys <| yc (rL ((k : Nat) : Int) T.other.h) (fun aK => ?_) fun aK => ?_
  ·refine yk <| ys <| qa <| yx 2 <| yD [13] fun aL bD n => ?_; have p := zt (Ch.refl (· = t) G) n eZ; have aM := qq n aG (fun _ h => h.elim); have K := j.blk.ch n id; have aN := aJ.ch n id; refine yd (uL 0 13) [] (.l (K.c 0) (.l (K.c 0) (.l (aN.c 0) .z))) ?_; have a3 := j.scalar (T' := d) p K rfl rfl rfl rfl; have L := Ch.on I p s; have bE := a3.pk2 p hI L; have q := a3.mono (F' := more F w aL) (fun b hb => hb.elim .inl (fun h2 => .inr ⟨h2.1, by have := zzs p; omega⟩)) (hI.moreOk L.size); refine yK 13 (yQ (qag _ _ _ (((k : Nat) : Int)) (0) (d.grid.w) qbU _ aM.tb q.g1) ?_); rintro a4 ⟨aP, M⟩; obtain ⟨a5, aQ⟩ := TermAt.next hA0 L (q.chF M) ⟨_, _, _, _, _, _, _, _, _, _, _, _, q.grid1 M aP (fun _ h => h)⟩; have bF := q.chF M; have a6 : Lim W H ({ d with grid := (qb3 d.grid (((k : Nat) : Int)) (0) (d.grid.w) qbU) } : TS) := J.grid (qbp _ _ _ _ _); generalize aR : ({ d with grid := (qb3 d.grid (((k : Nat) : Int)) (0) (d.grid.w) qbU) } : TS) = T115 at a5 a6; have aS := a6; have bG := aS.all; obtain ⟨aT, bH, bI, bJ, bK, bL, bM, bN, bO, bP, bQ, bR, r⟩ := a5; obtain ⟨bS, bT⟩ := r.g1.head; have bU : Df t aT := fun e => r.t1 (e ▸ r.g1.inF); refine q9 <| yDe (nB (nS ?_)); refine q7 <| yp 2 [] (.q6 (((k : Nat) : Int) + 1) .z) ?_; have a7 := Ch.on aQ (Ch.refl (· = t) a4) s; have aU := r.pk2 (Ch.refl (· = t) a4) hI a7; refine yE (fun a ha => aF (k + 1) _ ⟨(by omega), (TermAt.eq' aU (by subst aR; subst a2; rfl)), a7⟩ (by show T.other.h.toNat - (k + 1) < T.other.h.toNat - k; omega) a (ha.kp [0, 57, 58]))
  have aV : k = T.other.h.toNat := by omega
  refine qv (eS (qe (qb (qB ?_)))); have a8 := Ch.on I (Ch.refl (· = t) G) s; have aW := j.pk2 (Ch.refl (· = t) G) hI a8; subst a2; subst aV; refine ⟨rfl, TermAt.eq' aW ?_, a8⟩; exact (if_neg (by rw [m]; decide)).trans (if_pos E)
 refine qk (qB ?_); have aX := hI.swap (T' := ({ T with grid := T.other, other := T.grid, cursor := T.away, away := T.cursor, alt := b } : TS)) D (Blk.to S (by kernel_rfl)) rfl rfl rfl rfl; have a9 := hI.cht D; have aY := aX.pk1 hI a9; refine ⟨rfl, TermAt.eq' aY ?_, a9⟩; exact (if_neg (by rw [m]; decide)).trans (if_neg (by rw [E]; decide))
theorem qiq {w : World} {t : Nat} {W H : Int} {T : TS} {F : Nat → Prop} (hA0 : TermAt w t T F) (hT : LT w) (hL : Lim W H T) (n : Int) (b : Bool) : Calls Tryz.prog 86 [pX t, iX n, .bool b].toArray w fun e w' => e = .returned (.tuple #[]) ∧ TermAt w' t (qaA T n b) (more F w w') ∧ Ch F w w' := by
 have h := Sep.startT hA0; have hg := Gz.of hA0; have hM := hL; have i := hM.all; refine yA Tryz.func86 rfl <| yx 1 <| qa <| yx 2 <| yc (rE n 6) (fun c => ?_) fun c => ?_
 ·refine ysr <| yq 4 <| yo (zT 0 ({ T with origin := b } : TS) h fun u h => ?_); refine ye <| q7 <| yq 1 ?_; have d : Lim W H ({ T with origin := b } : TS) := { hL with  }
  refine yo (yQ (h.met 0 fun F hA hF => qb7 hA (h.tb hg hT.tb) d  (1) (1) (by constructor <;> omega) (by constructor <;> omega)) fun u h => ?_); refine yE (nB (qB ?_)); refine h.tfin hg ?_; simp only [qaA, *, ↓reduceIte, Int.reduceEq, Int.reduceLT, Int.reduceLE, sB]
 refine yx 2 <| yc (rE n 7) (fun f => ?_) fun f => ?_
 ·refine ysr <| yq 4 <| yo (zT 0 ({ T with wrap := b } : TS) h fun u h => ?_); refine ye <| q7 <| yp 7 [] (.l (h.tc 0 4) .z) <| yw [27] (rY T.cursor.late) (fun a => ?_) fun a => ?_
  ·refine yq 12 <| yo (zT 0 ({ T with cursor := (Cur.mk T.cursor.x T.cursor.y b T.cursor.sty), wrap := b } : TS) h fun u h => ?_); refine yE (nB (qB ?_)); refine h.tfin hg ?_; simp only [qaA, *, ↓reduceIte, Int.reduceEq, Int.reduceLT, Int.reduceLE, sB]
  refine yq 12 <| yo (zT 0 ({ T with cursor := (Cur.mk T.cursor.x T.cursor.y false T.cursor.sty), wrap := b } : TS) h fun u h => ?_); refine yE (nB (qB ?_)); refine h.tfin hg ?_; simp only [qaA, *, ↓reduceIte, Int.reduceEq, Int.reduceLT, Int.reduceLE, sB]
 refine yx 2 <| yc (rE n 25) (fun a => ?_) fun a => ?_
 ·refine q7 <| yq 5 <| yo (zT 0 ({ T with hidden := (!b) } : TS) h fun u h => ?_); refine yE (nB (qB ?_)); refine h.tfin hg ?_; simp only [qaA, *, ↓reduceIte, Int.reduceEq, Int.reduceLT, Int.reduceLE, sB]
 refine yx 2 <| yc (rE n 1049) (fun g => ?_) fun g => ?_
 ·refine q7 <| yq 2 <| yo (yQ (h.met 0 fun F hA hF => turn_at hA (h.lt hg hT) hL  b) fun u h => ?_); refine yE (nB (qB ?_)); refine h.tfin hg ?_; simp only [qaA, *, ↓reduceIte, Int.reduceEq, Int.reduceLT, Int.reduceLE, sB]
 refine qk (nB (qB ?_)); refine h.tfin hg ?_; simp only [qaA, *, ↓reduceIte, Int.reduceEq, Int.reduceLT, Int.reduceLE, sB]
theorem qdX (l : List Int) (T : TS) (b : Bool) {k : Nat} (h : k < l.length) : (l.take (k + 1)).foldl (fun T n => qaA T n b) T = qaA ((l.take k).foldl (fun T n => qaA T n b) T) (l.getD k 0) b := by
 rw [List.take_succ_eq_append_getElem h, List.foldl_append]; simp [List.getD, List.getElem?_eq_getElem h]
theorem csi_at {w : World} {t : Nat} {W H : Int} {T : TS} {F : Nat → Prop} (hA0 : TermAt w t T F) (hT : LT w) (hL : Lim W H T) {ao : Option Nat} {an cc : Nat} {ac : Ac} (hV : IntsAt w .i64 ao an cc ac.params (fun b => ¬ F b ∧ b < w.heap.size)) (hV8 : an ≤ 8) (hVb : ∀ x ∈ ac.params, 0 ≤ x ∧ x ≤ 9999) : Calls Tryz.prog 64 [pX t, .agg #[iX ac.kind, rX ac.rune, uX ac.last, .string ac.marks, .slice (ao.map at0) an cc, .string ac.text]].toArray w fun e w' => e = .returned (.tuple #[]) ∧ TermAt w' t (qhn T ac) (more F w w') ∧ Ch F w w' := by
 have h := Sep.startT hA0; have hg := Gz.of hA0; have hM := hL; have Y := hM.all; have v : ac.params.length = an := hV.2.1; refine yA Tryz.func64 rfl <| ysr <| yo (zN [iX ac.kind, rX ac.rune, uX ac.last, .string ac.marks, .slice (ao.map at0) an cc, .string ac.text] 90 h fun u d h => ?_); refine ye <| qa <| ysr <| yp 4 [] (.l (h.c 1 3) .z) <| ye <| yc (rY ((ac.marks).toList == (ByteArray.empty).toList)) (fun g => ?_) fun g => ?_
 ·refine q7 <| yp 2 [] (.a (h.cs 1 0 6) .z) <| yo (yQ (h.met 0 fun F hA hF => plain_at hA (h.lt hg hT) hL  (h.intsF hV hF) hV8 hVb) fun u h => ?_); refine yE (nB (qB ?_)); refine h.tfin hg ?_; simp only [qhn, *, ↓reduceIte, Int.reduceEq, Int.reduceLT, Int.reduceLE, sB]
 refine ysr <| yp 4 [] (.l (h.c 1 3) .z) <| yw [17] (rY ((ac.marks).toList == ((⟨#[63]⟩ : ByteArray)).toList)) (fun j => ?_) fun j => ?_
 ·refine yp 8 [] (.l (h.c 1 2) .z) <| yw [21] (rE ac.last 104) (fun m => ?_) fun m => ?_
  ·refine yz 14 <| yct <| ysr <| yp 4 [] (.l (h.c 1 4) .z) <| ye <| qa ?_; rcases ao with _ | ab
   ·have p : ac.params = [] := by have := hV.1.1 rfl; simpa using this
    have D : an = 0 := by have := hV.2.1; rw [p] at this; exact this.symm
    refine qa2 [0, 3, 28, 29, 30] (f' := [(0, pX t), (3, pX d), (28, .slice none an cc), (29, iX ((an : Nat) : Int)), (30, iX 0)]) <| qG (σ := Nat) (fun k => [(0, pX t), (3, pX d), (28, .slice none an cc), (29, iX ((an : Nat) : Int)), (30, iX ((k : Nat) : Int))]) (fun k u => k ≤ an ∧ Sep w F u [qbq t ((ac.params.take k).foldl (fun T n => qaA T n ((ac.last : Int) == 104)) T), qg d [iX ac.kind, rX ac.rune, uX ac.last, .string ac.marks, .slice none an cc, .string ac.text] 90]) (fun k => an - k) 0 rfl ?_ ?_
    ·exact ⟨Nat.zero_le _, h.cuts 2 rfl rfl⟩
    intro k u E Z a0; obtain ⟨hk, h⟩ := E; have y : Lim W H ((ac.params.take k).foldl (fun T n => qaA T n ((ac.last : Int) == 104)) T) := (qbD hL _ _)
    generalize G : ((ac.params.take k).foldl (fun T n => qaA T n ((ac.last : Int) == 104)) T) = T18 at h y; have I := y; have a1 := I.all; refine yx 1 <| ys <| yc (rL ((k : Nat) : Int) ((an : Nat) : Int)) (fun J => ?_) fun J => ?_
    ·exfalso; omega
    have f : k = ac.params.length := by omega
    refine qv (eS (qe (qb (nB (qB ?_))))); subst G; subst f; refine h.tfin hg ?_; simp only [qhn, List.take_length, g, j, m, ↓reduceIte, Int.reduceEq, Bool.false_eq_true, and_true, true_and, or_true, true_or, or_false, false_or]
   have v : ac.params.length = an := hV.2.1; refine qa2 [0, 3, 28, 29, 30] (f' := [(0, pX t), (3, pX d), (28, .slice (some ⟨ab, 0, none⟩) an cc), (29, iX ((an : Nat) : Int)), (30, iX 0)]) <| qG (σ := Nat) (fun k => [(0, pX t), (3, pX d), (28, .slice (some ⟨ab, 0, none⟩) an cc), (29, iX ((an : Nat) : Int)), (30, iX ((k : Nat) : Int))]) (fun k u => k ≤ an ∧ Sep w F u [qbq t ((ac.params.take k).foldl (fun T n => qaA T n ((ac.last : Int) == 104)) T), qg d [iX ac.kind, rX ac.rune, uX ac.last, .string ac.marks, .slice (some ⟨ab, 0, none⟩) an cc, .string ac.text] 90]) (fun k => an - k) 0 rfl ?_ ?_
   ·exact ⟨Nat.zero_le _, h.cuts 2 rfl rfl⟩
   intro k u K a2 L; obtain ⟨hk, h⟩ := K; have q : Lim W H ((ac.params.take k).foldl (fun T n => qaA T n ((ac.last : Int) == 104)) T) := (qbD hL _ _)
   generalize A : ((ac.params.take k).foldl (fun T n => qaA T n ((ac.last : Int) == 104)) T) = T24 at h q; have M := q; have a3 := M.all; refine yx 1 <| ys <| yc (rL ((k : Nat) : Int) ((an : Nat) : Int)) (fun N => ?_) fun N => ?_
   ·refine yk <| ys <| qa <| ysr <| yp 3 [] (.i ((k : Nat) : Int) (an) (.l (o := (0 + (((k : Nat) : Int)).toNat * 1)) (qaX (h.ints hV).1 k (by omega)) .z)) <| ye <| q7 <| yp 5 [] (.l (h.c 1 2) .z) <| yo (yQ (h.met 0 fun F hA hF => qiq hA (h.lt hg hT) q  ((ac.params.getD k 0)) ((ac.last : Int) == 104)) fun u h => ?_); refine yE (nB (nS ?_)); refine q7 <| yp 2 [] (.q6 (((k : Nat) : Int) + 1) .z) <| yE (fun a ha => L (k + 1) _ ⟨(by omega), h.cuts 2 rfl (by subst A; exact qdX _ _ _ (by omega))⟩ (by show an - (k + 1) < an - k; omega) a (ha.kp [0, 3, 28, 29, 30]))
   have f : k = ac.params.length := by omega
   refine qv (eS (qe (qb (nB (qB ?_))))); subst A; subst f; refine h.tfin hg ?_; simp only [qhn, List.take_length, g, j, m, ↓reduceIte, Int.reduceEq, Bool.false_eq_true, and_true, true_and, or_true, true_or, or_false, false_or]
  refine yp 14 [] (.l (h.c 1 2) .z) <| ye <| yc (rE ac.last 108) (fun r => ?_) fun r => ?_
  ·refine ysr <| yp 4 [] (.l (h.c 1 4) .z) <| ye <| qa ?_; rcases ao with _ | ab
   ·have p : ac.params = [] := by have := hV.1.1 rfl; simpa using this
    have D : an = 0 := by have := hV.2.1; rw [p] at this; exact this.symm
    refine qa2 [0, 3, 28, 29, 30] (f' := [(0, pX t), (3, pX d), (28, .slice none an cc), (29, iX ((an : Nat) : Int)), (30, iX 0)]) <| qG (σ := Nat) (fun k => [(0, pX t), (3, pX d), (28, .slice none an cc), (29, iX ((an : Nat) : Int)), (30, iX ((k : Nat) : Int))]) (fun k u => k ≤ an ∧ Sep w F u [qbq t ((ac.params.take k).foldl (fun T n => qaA T n ((ac.last : Int) == 104)) T), qg d [iX ac.kind, rX ac.rune, uX ac.last, .string ac.marks, .slice none an cc, .string ac.text] 90]) (fun k => an - k) 0 rfl ?_ ?_
    ·exact ⟨Nat.zero_le _, h.cuts 2 rfl rfl⟩
    intro k u O a4 a5; obtain ⟨hk, h⟩ := O; have B : Lim W H ((ac.params.take k).foldl (fun T n => qaA T n ((ac.last : Int) == 104)) T) := (qbD hL _ _)
    generalize P : ((ac.params.take k).foldl (fun T n => qaA T n ((ac.last : Int) == 104)) T) = T31 at h B; have Q := B; have a6 := Q.all; refine yx 1 <| ys <| yc (rL ((k : Nat) : Int) ((an : Nat) : Int)) (fun R => ?_) fun R => ?_
    ·exfalso; omega
    have f : k = ac.params.length := by omega
    refine qv (eS (qe (qb (nB (qB ?_))))); subst P; subst f; refine h.tfin hg ?_; simp only [qhn, List.take_length, g, j, m, r, ↓reduceIte, Int.reduceEq, Bool.false_eq_true, and_true, true_and, or_true, true_or, or_false, false_or]
   have v : ac.params.length = an := hV.2.1; refine qa2 [0, 3, 28, 29, 30] (f' := [(0, pX t), (3, pX d), (28, .slice (some ⟨ab, 0, none⟩) an cc), (29, iX ((an : Nat) : Int)), (30, iX 0)]) <| qG (σ := Nat) (fun k => [(0, pX t), (3, pX d), (28, .slice (some ⟨ab, 0, none⟩) an cc), (29, iX ((an : Nat) : Int)), (30, iX ((k : Nat) : Int))]) (fun k u => k ≤ an ∧ Sep w F u [qbq t ((ac.params.take k).foldl (fun T n => qaA T n ((ac.last : Int) == 104)) T), qg d [iX ac.kind, rX ac.rune, uX ac.last, .string ac.marks, .slice (some ⟨ab, 0, none⟩) an cc, .string ac.text] 90]) (fun k => an - k) 0 rfl ?_ ?_
   ·exact ⟨Nat.zero_le _, h.cuts 2 rfl rfl⟩
   intro k u S a7 U; obtain ⟨hk, h⟩ := S; have s : Lim W H ((ac.params.take k).foldl (fun T n => qaA T n ((ac.last : Int) == 104)) T) := (qbD hL _ _)
   generalize C : ((ac.params.take k).foldl (fun T n => qaA T n ((ac.last : Int) == 104)) T) = T37 at h s; have V := s; have a8 := V.all; refine yx 1 <| ys <| yc (rL ((k : Nat) : Int) ((an : Nat) : Int)) (fun X => ?_) fun X => ?_
   ·refine yk <| ys <| qa <| ysr <| yp 3 [] (.i ((k : Nat) : Int) (an) (.l (o := (0 + (((k : Nat) : Int)).toNat * 1)) (qaX (h.ints hV).1 k (by omega)) .z)) <| ye <| q7 <| yp 5 [] (.l (h.c 1 2) .z) <| yo (yQ (h.met 0 fun F hA hF => qiq hA (h.lt hg hT) s  ((ac.params.getD k 0)) ((ac.last : Int) == 104)) fun u h => ?_); refine yE (nB (nS ?_)); refine q7 <| yp 2 [] (.q6 (((k : Nat) : Int) + 1) .z) <| yE (fun a ha => U (k + 1) _ ⟨(by omega), h.cuts 2 rfl (by subst C; exact qdX _ _ _ (by omega))⟩ (by show an - (k + 1) < an - k; omega) a (ha.kp [0, 3, 28, 29, 30]))
   have f : k = ac.params.length := by omega
   refine qv (eS (qe (qb (nB (qB ?_))))); subst C; subst f; refine h.tfin hg ?_; simp only [qhn, List.take_length, g, j, m, r, ↓reduceIte, Int.reduceEq, Bool.false_eq_true, and_true, true_and, or_true, true_or, or_false, false_or]
  refine qk (nB (qB ?_)); refine h.tfin hg ?_; simp only [qhn, *, ↓reduceIte, Int.reduceEq, Int.reduceLT, Int.reduceLE, sB]
 refine yz 14 <| ycf <| qk (nB (qB ?_)); refine h.tfin hg ?_; simp only [qhn, *, ↓reduceIte, Int.reduceEq, Int.reduceLT, Int.reduceLE, sB]
def TS.valsG (t : TS) (v0 v1 bk ps : Value) : List Value := v0 :: v1 :: (t.vals 0 0 bk ps).drop 2
theorem valsG_eq (t : TS) (g o : Nat) (bk ps : Value) : t.valsG (.pointer (some ⟨g, 0, none⟩)) (.pointer (some ⟨o, 0, none⟩)) bk ps = t.vals g o bk ps := by kernel_rfl
def qcM (T : TS) (G : Gr) (b : Int) (k : Nat) : TS :=
 {grid := G, other := G, cursor := cur0, saved := cur0, away := cur0, top := 0, bot := b, tabs := qfM k, wrap := true, origin := false, insert := false, hidden := false, draw0 := false, draw1 := false, shift := false, alt := false, title := ByteArray.empty, back := [], parser := T.parser, reply := T.reply }
def qgf (T : TS) (G : Gr) : TS :=
 {grid := G, other := G, cursor := cur0, saved := cur0, away := cur0, top := 0, bot := 0, tabs := fun _ => false, wrap := true, origin := false, insert := false, hidden := false, draw0 := false, draw1 := false, shift := false, alt := false, title := ByteArray.empty, back := [], parser := T.parser, reply := T.reply }
theorem tabs0_0 : qfM 0 = fun _ => false := by
 funext i
 unfold qfM
 exact decide_eq_false (by omega)
theorem qh2 (k : Nat) : qfM (k + 1) = fun i => if i = (8 + 8 * ((k : Nat) : Int)).toNat then true else qfM k i := by
 funext i
 unfold qfM
 by_cases h : i = (8 + 8 * ((k : Nat) : Int)).toNat
 ·rw [if_pos h]; exact decide_eq_true (by omega)
 ·rw [if_neg h]
  by_cases h2 : i % 8 = 0 ∧ 8 ≤ i ∧ i < 8 + 8 * k
  ·rw [decide_eq_true h2]; exact decide_eq_true (by omega)
  ·rw [decide_eq_false h2]; exact decide_eq_false (by omega)
theorem qh3 (T : TS) (p1 p2 b : Int) (k : Nat) (hr : T.reply.size ≤ 400) (hb : b = qp p2) : Lim (qp p1) (qp p2) (qcM T (qcW p1 p2) b k) := by
 subst hb
 exact (qdh T p1 p2 hr).flags rfl rfl rfl rfl rfl rfl rfl rfl rfl
def PsAt (w : World) (t : Nat) (pa : Option Addr) (pn pc : Nat) (l : List Int) (FP : Nat → Prop) : Prop :=
 (Rd w pa (l.map (Value.int .i64)) ∧ l.length = pn ∧ (pa = none → pc = 0) ∧ ∀ ad, pa = some ad → FP ad.block) ∧ (∃ po : Option Nat, pa = po.map at0) ∧ ∀ b, FP b → b < w.heap.size ∧ gTop ≤ b ∧ b ≠ t
theorem start_in {w w1 w2 : World} {t g o : Nat} {pa : Option Addr} {pn pc : Nat} {T T0 : TS} {F1 F2 FP F : Nat → Prop} {G : Gr} (hP : PsAt w t pa pn pc T.parser.params FP) (ht : t < w.heap.size) (ht7 : gTop ≤ t) (hp : T0.parser.params = T.parser.params) (hk : T0.back = []) (hg : T0.grid = G) (ho : T0.other = G)
  (c1 : Ch (fun j => j = t) w w1) (s1 : ∀ b, F1 b → w.heap.size ≤ b ∧ b < w2.heap.size) (s2 : ∀ b, F2 b → w2.heap.size ≤ b) (c12 : w.heap.size ≤ w2.heap.size)
  (h1 : GridAt w1 g G F1) (h2 : GridAt w1 o G F2) (hb : Blk w1 t (T0.vals g o (.slice none 0 0) (.slice pa pn pc)) qbo) (hF : F = fun b => b = t ∨ FP b ∨ (w.heap.size ≤ b ∧ b < w1.heap.size)) :
  TermIn w1 t g o none 0 0 pa pn pc T0 F F1 F2 (fun _ => False) FP := by
 obtain ⟨hP, hz, hf⟩ := hP
 subst hF
 exact
 {blk := hb
  g1 := by rw [hg]; exact h1
  g2 := by rw [ho]; exact h2
  bk := ⟨[], ⟨Rd.nil _ _, rfl, (fun x hx => by cases hx), (fun x hx => by cases hx), (fun ad e => by cases e), (fun b hb => hb.elim), fun b hb => hb.elim⟩, hk.symm⟩
  bcap := ⟨Nat.le_refl _, fun _ => rfl⟩
  ps := by rw [hp]; exact ⟨hP.1.ch c1 fun ad e e2 => (hf _ (hP.2.2.2 ad e)).2.2 e2, hP.2⟩
  pz := hz
  bz := .inl rfl
  t1 := fun h => by have := (s1 t h).1; omega
  t2 := fun h => by have := s2 t h; omega
  tB := fun h => h
  tP := fun h => (hf t h).2.2 rfl
  a12 := fun b x y => by have := s1 b x; have := s2 b y; omega
  a1B := fun b _ h => h
  a2B := fun b _ h => h
  a1P := fun b x y => by have := s1 b x; have := hf b y; omega
  a2P := fun b x y => by have := s2 b x; have := hf b y; omega
  inF := ⟨.inl rfl, fun b h => .inr (.inr ⟨(s1 b h).1, h1.lt b h⟩), fun b h => .inr (.inr ⟨by have := s2 b h; omega, h2.lt b h⟩), fun b h => h.elim, fun b h => .inr (.inl h)⟩
  lt := fun b h => h.elim (fun h => h ▸ hb.lt) fun h => h.elim (fun h => by have := hf b h; have := c1.size; omega) fun h => h.2
  hi := fun b h => h.elim (fun h => h ▸ ht7) fun h => h.elim (fun h => (hf b h).2.1) fun h => by omega }
theorem qff {w : World} {t : Nat} {v0 v1 bk : Value} {pa : Option Addr} {pn pc : Nat} {T : TS} {FP : Nat → Prop} (hB0 : Blk w t (T.valsG v0 v1 bk (.slice pa pn pc)) qbo) (hP : PsAt w t pa pn pc T.parser.params FP) (ht7 : gTop ≤ t) (hT : LT w) (hr : T.reply.size ≤ 400) (p1 p2 : Int) : Calls Tryz.prog 32 [pX t, iX p1, iX p2].toArray w fun e w' =>
 e = .returned (.tuple #[]) ∧ TermAt w' t (startT T p1 p2) (fun b => b = t ∨ FP b ∨ (w.heap.size ≤ b ∧ b < w'.heap.size)) ∧ Ch (fun b => b = t ∨ FP b) w w' := by
 have ht := hB0.lt; have aC : 1 ≤ qp p1 ∧ qp p1 ≤ 60 := by unfold qp; omega
 have aD : 1 ≤ qp p2 ∧ qp p2 ≤ 60 := by unfold qp; omega
 refine yA Tryz.func32 rfl <| ys <| yDC [17] fun aE aF s => ?_; have v := zt (Ch.refl (· = t) w) s eZ; have x := hB0.ch s id; have J := qq s hT (fun _ h => h.elim); refine ydC [0, 1, 2, 4, 5, 7, 8, 9, 10, 11, 12, 13, 14] [] (fun u hu => (.a (qar hu (x.cs 98 9) id) (.l (qF hu (x.c 107) id) .z))) <| yH 3 (yC (qd6 p1 p2 _ J.tb (by have := ht; have := zzs v; omega)) ?_); rintro _ K ⟨m, y, rfl, L, a1, o⟩; refine ⟨_, rfl, ?_⟩; have M : ∀ b, y b → w.heap.size ≤ b := fun b hb => Nat.le_trans (zzs v) (a1 b hb); have p := zt v o eZ; have a2 := x.ch o id; have a3 := qq o J (fun _ h => h.elim); refine qaq o ?_; have a4 := L.lt; have a5 := zzs p; refine yH 6 (yC (qd6 p1 p2 _ a3.tb (by have := ht; have := zzs p; omega)) ?_); rintro _ aG ⟨A, N, rfl, a6, O, q⟩; refine ⟨_, rfl, ?_⟩; have a7 : ∀ b, N b → w.heap.size ≤ b := fun b hb => Nat.le_trans (zzs p) (O b hb); have a8 := zt p q eZ; have a9 := a2.ch q id; have aa := L.ch q iZ; refine qaq q <| ydC [15, 16] [] (fun u hu => .z) <| yK 17 (qY 0 [pX m, pX A, iX 0, iX 0, .bool false, .bool false, .bool false, .bool false, iX 0, iX 0, iX 0, iX 0, .bool false, .bool false, .bool false, .bool false, iX 0, iX 0, iX 0, iX 0, .bool false, .bool false, .bool false, .bool false, iX 0, iX 0, iX 0, iX 0, .bool false, .bool false, .bool false, .bool false, .bool false, .bool false, .bool false, .bool false, .bool false, .bool false, .bool false, .bool false, .bool false, .bool false, .bool false, .bool false, .bool false, .bool false, .bool false, .bool false, .bool false, .bool false, .bool false, .bool false, .bool false, .bool false, .bool false, .bool false, .bool false, .bool false, .bool false, .bool false, .bool false, .bool false, .bool false, .bool false, .bool false, .bool false, .bool false, .bool false, .bool false, .bool false, .bool false, .bool false, .bool false, .bool false, .bool false, .bool false, .bool false, .bool false, .bool false, .bool false, .bool false, .bool false, .bool false, .bool false, .bool false, .bool false, .bool false, .bool false, .bool true, .bool false, .bool false, .bool false, .bool false, .bool false, .bool false, .bool false, oX, nX, iX T.parser.state, uX T.parser.utf.b0, uX T.parser.utf.b1, uX T.parser.utf.b2, iX T.parser.utf.n, .string T.parser.marks, .slice pa pn pc, .string T.parser.text, iX T.parser.within, .string T.reply] none (by kernel_rfl) a9 (qbb (by kernel_rfl)) ?_)
 intro d g B; replace g : Blk d t (TS.vals (qgf T (qcW p1 p2)) m A (nX) (.slice pa pn pc)) qbo := Blk.to g (by kernel_rfl); have P := zt a8 B (fun i hi (h : i = t) => h); have ab := aa.ch B (fun b hb (h : b = t) => by have := M b hb; omega); have ac := a6.ch B (fun b hb (h : b = t) => by have := a7 b hb; omega); obtain ⟨F, C⟩ : ∃ F : Nat → Prop, F = fun b => b = t ∨ FP b ∨ (w.heap.size ≤ b ∧ b < d.heap.size) := ⟨_, rfl⟩
 have ad : ∀ b, y b → w.heap.size ≤ b ∧ b < K.heap.size := fun b hb => ⟨M b hb, a4 b hb⟩
 have hI : TermIn d t m A none 0 0 pa pn pc (qgf T (qcW p1 p2)) F y N (fun _ => False) FP := start_in (T := T) (w2 := K) hP ht ht7 rfl rfl rfl rfl P ad O a5 ab ac g C; have Q : F t := hI.inF.1; have aH : TermAt d t (qgf T (qcW p1 p2)) F := ⟨_, _, _, _, _, _, _, _, _, _, _, _, hI⟩
 have D := P; have aI := hI.blk.lt; obtain ⟨W, hW⟩ : ∃ W, W = qp p1 := ⟨_, rfl⟩
 obtain ⟨H, hH⟩ : ∃ H, H = qp p2 := ⟨_, rfl⟩
 obtain ⟨aJ, ae⟩ := hI.g1.head; have aK : Df t m := fun e => hI.t1 (e ▸ hI.g1.inF); refine q9 <| yDe (nS ?_); refine ysr <| yp 10 [] (.l (g.c 0) (.l (ae.c 1) .z)) <| yo (yS g fun aL af ag => ?_); have R := zt (Ch.refl (· = t) d) ag (fun i hi (h : i = t) => h); refine ye <| yx 1 <| qa ?_; have ah := hI.scalar (T' := ({ (qgf T (qcW p1 p2)) with bot := (qcW p1 p2).h } : TS)) R (Blk.to af (by kernel_rfl)) rfl rfl rfl rfl; have S := hI.cht R; have ai := ah.pk1 hI S; refine qa2 [0, 6] (f' := [(0, pX t), (6, iX 8)]) <| qG (σ := Nat) (fun k => [(0, pX t), (6, iX (8 + 8 * ((k : Nat) : Int)))]) (fun k u => k ≤ 7 ∧ (TermAt u t (qcM T (qcW p1 p2) H k) (more F d u) ∧ Ch F d u)) (fun k => 7 - k) 0 rfl ?_ ?_
 ·exact ⟨(by omega), (TermAt.eq' ai (by subst hH; show qcM T (qcW p1 p2) (qp p2) 0 = _; unfold qcM; rw [tabs0_0]; rfl)), S⟩
 intro k E aj aM ak; obtain ⟨hk, U, V⟩ := aj; have X : Lim W H (qcM T (qcW p1 p2) H k) := (hW ▸ hH ▸ qh3 T p1 p2 (qp p2) k hr rfl)
 generalize Y : (qcM T (qcW p1 p2) H k) = j at U X; have al := X; have aN := al.all; obtain ⟨Z, am, an, ao, ap, aq, ar, au, aO, aP, aQ, aR, f⟩ := U; obtain ⟨aS, aT⟩ := f.g1.head; have aU : Df t Z := fun e => f.t1 (e ▸ f.g1.inF); refine ys <| yx 2 <| yc (rL (8 + 8 * ((k : Nat) : Int)) 60) (fun av => ?_) fun av => ?_
 ·refine yk <| ys <| qa <| q7 <| yp 5 [] (.i (8 + 8 * ((k : Nat) : Int)) (60) .z) <| yo (qY (28 + ((8 + 8 * ((k : Nat) : Int)) : Int).toNat * 1) [.bool true] none (by kernel_rfl) f.blk (by rw [qbh]; simp only [List.length_cons, List.length_nil]; omega) ?_); intro aw G ax; replace G : Blk aw t (TS.vals ({ j with tabs := (fun i => if i = ((8 + 8 * ((k : Nat) : Int)) : Int).toNat then true else j.tabs i) } : TS) Z am (.slice an ao ap) (.slice aq ar au)) qbo := Blk.to G (qek j _ _ _ _ _ (by omega) _); have I := zt (Ch.refl (· = t) E) ax (fun i hi (h : i = t) => h); refine yE (nB (nS ?_)); refine q7 <| yp 3 [] (.q6 ((8 + 8 * ((k : Nat) : Int)) + 8) .z) ?_; have ay := f.scalar (T' := ({ j with tabs := (fun i => if i = ((8 + 8 * ((k : Nat) : Int)) : Int).toNat then true else j.tabs i) } : TS)) I G rfl rfl rfl rfl; have a0 := Ch.on V I Q; have az := ay.pk2 I hI a0; refine yE (fun a ha => ak (k + 1) _ ⟨(by omega), (TermAt.eq' az (by subst Y; show qcM T (qcW p1 p2) H (k + 1) = _; unfold qcM; rw [qh2])), a0⟩ (by show 7 - (k + 1) < 7 - k; omega) a (by rw [show (8 + 8 * ((k + 1 : Nat) : Int)) = (8 + 8 * ((k : Nat) : Int)) + 8 by omega]; exact ha.kp [0, 6]))
 have aA : k = 7 := by omega
 refine qv (eS (qe (qb (qB ?_)))); have r := Ch.on V (Ch.refl (· = t) E) Q; have aB := f.pk2 (Ch.refl (· = t) E) hI r; subst Y; subst aA hH hW; refine ⟨rfl, TermAt.mono aB (fun b hb => ?_) (fun b hb => ?_), ?_⟩
 ·rcases hb with hb | hb
  ·rw [C] at hb; exact hb.imp id fun h => h.imp id fun h => ⟨h.1, by have := zzs r; omega⟩
  exact .inr (.inr ⟨by have := zzs D; omega, hb.2⟩)
 ·have hz := zzs r; have aV := zzs D; rcases hb with rfl | hb | hb
  ·exact ⟨by omega, ht7⟩
  ·have := hP.2.2 b hb; exact ⟨by omega, this.2.1⟩
  exact ⟨hb.2, by omega⟩
 refine zt (D.mono fun i _ h => .inl h) r fun i hi h => ?_; rw [C] at h; exact h.imp id fun h => h.elim id fun h => by omega
theorem qir {s u : ByteArray} (h : (s.toList == u.toList) = true) : s = u := by
 have h1 := eq_of_beq h
 rw [Go.ByteArray.toList_eq, Go.ByteArray.toList_eq] at h1
 obtain ⟨⟨a⟩⟩ := s
 obtain ⟨⟨b⟩⟩ := u
 have : a = b := h1
 rw [this]
theorem mark40 {s : ByteArray} (h : (s.toList == (⟨#[40]⟩ : ByteArray).toList) = true) : s.size = 1 ∧ bt s 0 = 40 := by
 rw [qir h]; exact ⟨rfl, rfl⟩
theorem mark41 {s : ByteArray} (h : (s.toList == (⟨#[41]⟩ : ByteArray).toList) = true) : s.size = 1 ∧ bt s 0 = 41 := by
 rw [qir h]; exact ⟨rfl, rfl⟩
theorem start_at {w : World} {t : Nat} {W H : Int} {T : TS} {F : Nat → Prop} (hA : TermAt w t T F) (hT : LT w) (hL : Lim W H T) (p1 p2 : Int) :
  Calls Tryz.prog 32 [.pointer (some ⟨t, 0, none⟩), .int .i64 p1, .int .i64 p2].toArray w fun e w' => e = .returned (.tuple #[]) ∧ TermAt w' t (startT T p1 p2) (more F w w') ∧ Ch F w w' := by
 obtain ⟨g, o, ba, bn, bc, pa, pn, pc, F1, F2, FB, FP, hI⟩ := hA
 have hB : Blk w t (T.valsG (.pointer (some ⟨g, 0, none⟩)) (.pointer (some ⟨o, 0, none⟩)) (.slice ba bn bc) (.slice pa pn pc)) qbo := by rw [valsG_eq]; exact hI.blk
 have hF : ∀ b, (b = t ∨ FP b) → F b := fun b h => h.elim (fun h => h ▸ hI.inF.1) (hI.inF.2.2.2.2 b)
 refine (qff hB ⟨hI.ps, hI.pz, fun b hb => ⟨hI.lt b (hF b (.inr hb)), hI.hi b (hF b (.inr hb)), fun e => hI.tP (e ▸ hb)⟩⟩ (hI.hi t hI.inF.1) hT hL.rp p1 p2).mono fun e w' ⟨he, hA', hc⟩ => ⟨he, hA'.mono (fun b hb => ?_) (hI.moreOk hc.size), hc.mono fun b _ h => hF b h⟩
 rcases hb with hb | hb | hb
 ·exact .inl (hF b (.inl hb))
 ·exact .inl (hF b (.inr hb))
 ·exact .inr hb
end Go.Proofs.YtjklgjjgndalcaaGreatDoor.X
