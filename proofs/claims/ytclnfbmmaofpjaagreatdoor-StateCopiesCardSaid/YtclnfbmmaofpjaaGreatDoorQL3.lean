/- What the proof of StateCopies needs, part 3: the walks of the program's functions and the plain laws about them. -/
import Derived.Test.YtclnfbmmaofpjaaGreatDoorQL2
set_option linter.unusedSimpArgs false
set_option linter.unusedVariables false
namespace Go.Proofs.YtclnfbmmaofpjaaGreatDoor.X
open Go Go.RowKit Go.Proofs.YtclnfbmmaofpjaaGreatDoor
theorem qai {w : World} {t : Nat} {W H : Int} {T : TS} {F : Nat → Prop} (hA : TermAt w t T F) (hT : qa4 w) (hL : Lim W H T) (x y : Int) : Calls Tryz.prog 99 [pX t, iX x, iX y].toArray w fun e w' => e = .returned (.tuple #[]) ∧ TermAt w' t (qa8 T x y) (more F w w') ∧ Ch F w w' := move_at hA x y
set_option maxHeartbeats 4000000 in
theorem exec_at {w : World} {t : Nat} {W H : Int} {T : TS} {F : Nat → Prop} (hA0 : TermAt w t T F) (hT : qa4 w) (hL : Lim W H T) (c : Int) : Calls Tryz.prog 80 [pX t, uX c].toArray w fun e w' => e = .returned (.tuple #[]) ∧ TermAt w' t (qcl T c) (more F w w') ∧ Ch F w w' := by
 obtain ⟨g, o, ba, bn, bc, pa, pn, pc, F1, F2, FB, FP, hI⟩ := hA0; have hA0 : TermAt w t T F := ⟨g, o, ba, bn, bc, pa, pn, pc, F1, F2, FB, FP, hI⟩
 have n := hI.inF.1; obtain ⟨gv, aC⟩ := hI.g1.head; have c6 : Df t g := fun e => hI.t1 (e ▸ hI.g1.inF); obtain ⟨⟨c7, c8⟩, ⟨c9, ca⟩, cb, cc⟩ := hI.g1.ok; have aD := hL; have cd := aD.all; refine yA Tryz.func80 rfl <| yx 1 <| q8 <| yx 2 <| yc (rE c 8) (fun b => ?_) fun b => ?_
 ·refine yD [12] fun ce cf K => ?_; have R := zt (Ch.refl (· = t) w) K eZ; have L := hI.blk.ch K id; have aE := qh K hT id id; refine yd (uL 0 12) [] (.l (L.c 2) (.q6 (T.cursor.x - 1) (.l (L.c 3) .z))) ?_; have aF := hI.scalar (T' := T) R L rfl rfl rfl rfl; have S := hI.cht R; have aG := aF.pk1 hI S; refine yK 12 (yQ (qai aG aE hL  ((T.cursor.x - 1)) (T.cursor.y)) ?_); rintro U ⟨aH, aI⟩; obtain ⟨V, aJ⟩ := TermAt.next hA0 S aI aH; have X : Lim W H (qa8 T ((T.cursor.x - 1)) (T.cursor.y)) := (qR hL ((T.cursor.x - 1)) (T.cursor.y))
  generalize aK : (qa8 T ((T.cursor.x - 1)) (T.cursor.y)) = T29 at V X; have aL := X; have cg := aL.all; obtain ⟨aM, ci, cj, ck, cl, cm, cn, co, cp, cq, cr, cs, C⟩ := V; obtain ⟨ct, cu⟩ := C.g1.head; have cv : Df t aM := fun e => C.t1 (e ▸ C.g1.inF); refine q9 <| yDe (nB (qM ?_)); have Y := Ch.on aJ (Ch.refl (· = t) U) n; have aN := C.pk2 (Ch.refl (· = t) U) hI Y; subst aK; refine ⟨rfl, TermAt.eq' aN ?_, Y⟩; simp only [qcl, qlO, qaL, b, ↓reduceIte, Int.reduceEq, Int.reduceLT, Int.reduceLE, sB]
 refine yx 2 <| yc (rE c 9) (fun d => ?_) fun d => ?_
 ·refine ysr <| yp 7 [] (.l (hI.blk.c 2) (.q6 (T.cursor.x + 1) .z)) <| ye <| ys <| q8 <| qN [0, 4] (f' := [(0, pX t), (4, iX (T.cursor.x + 1))]) <| qw (σ := Nat) (fun k => [(0, pX t), (4, iX (T.cursor.x + 1 + ((k : Nat) : Int)))]) (fun k u => k ≤ 59 ∧ tabN T (60 - k) (T.cursor.x + 1 + ((k : Nat) : Int)) = tabN T 60 (T.cursor.x + 1) ∧ Ch (fun _ => False) w u) (fun k => 60 - k) 0 (by simp) ?_ ?_
  ·exact ⟨by omega, by simp, Ch.refl _ _⟩
  intro k cw aO cx aP; obtain ⟨cy, M, r⟩ := aO; have D := zt (Ch.refl (· = t) w) r eZ; have p := hI.blk.ch r id; have aQ := aC.ch r id; have Z := qh r hT id id; refine ys <| ysr <| yp 11 [] (.l (p.c 0) (.l (aQ.c 0) (.q6 (T.grid.w - 1) .z))) <| yw [39] (rL (T.cursor.x + 1 + ((k : Nat) : Int)) (T.grid.w - 1)) (fun aR => ?_) fun aR => ?_
  ·refine yp 19 [] (.i (T.cursor.x + 1 + ((k : Nat) : Int)) (60) (.l (qgr p ((T.cursor.x + 1 + ((k : Nat) : Int))) (by omega) (by omega)) .z)) <| ye <| yc (rN (rY (T.tabs ((T.cursor.x + 1 + ((k : Nat) : Int)) : Int).toNat))) (fun a0 => ?_) fun a0 => ?_
   ·refine yk <| q8 <| q7 <| yp 3 [] (.q6 ((T.cursor.x + 1 + ((k : Nat) : Int)) + 1) .z) <| yE (nB  (fun a ha => aP (k + 1) _ ⟨by omega, by rw [show T.cursor.x + 1 + ((k + 1 : Nat) : Int) = (T.cursor.x + 1 + ((k : Nat) : Int)) + 1 by omega]; exact tabN_go M (by omega) (by omega) (by assumption), r⟩ (by show 60 - (k + 1) < 60 - k; omega) a (by rw [show (T.cursor.x + 1 + ((k + 1 : Nat) : Int)) = (T.cursor.x + 1 + ((k : Nat) : Int)) + 1 by omega]; exact ha.kp [0, 4])))
   have N := qjl M (fun h2 => by rw [a0] at h2; exact absurd h2.2 (by decide)); refine qk (eS (qf (qe (nS ?_)))); refine q7 <| yp 7 [] (.l (p.c 3) .z) ?_; have aS := hI.scalar (T' := T) D p rfl rfl rfl rfl; have a2 := hI.cht D; have aT := aS.pk1 hI a2; refine yo (yQ (qai aT Z hL  ((T.cursor.x + 1 + ((k : Nat) : Int))) (T.cursor.y)) ?_); rintro a3 ⟨aU, aV⟩; obtain ⟨a4, aW⟩ := TermAt.next hA0 a2 aV aU; have a5 : Lim W H (qa8 T ((T.cursor.x + 1 + ((k : Nat) : Int))) (T.cursor.y)) := (qR hL ((T.cursor.x + 1 + ((k : Nat) : Int))) (T.cursor.y))
   generalize aX : (qa8 T ((T.cursor.x + 1 + ((k : Nat) : Int))) (T.cursor.y)) = T57 at a4 a5; have aY := a5; have cz := aY.all; obtain ⟨aZ, cA, cB, cC, cD, cE, cF, cG, cH, cI, cJ, cK, E⟩ := a4; obtain ⟨cL, cM⟩ := E.g1.head; have cN : Df t aZ := fun e => E.t1 (e ▸ E.g1.inF); refine yE (nB (qM ?_)); have a6 := Ch.on aW (Ch.refl (· = t) a3) n; have b0 := E.pk2 (Ch.refl (· = t) a3) hI a6; subst aX; refine ⟨rfl, TermAt.eq' b0 ?_, a6⟩; simp only [qcl, qlO, qaL, b, d, N, ↓reduceIte, Int.reduceEq, Int.reduceLT, Int.reduceLE, sB]
  have N := qjl M (fun h => by omega); refine yz 19 <| ycf <| qk (eS (qf (qe (nS ?_)))); refine q7 <| yp 7 [] (.l (p.c 3) .z) ?_; have b1 := hI.scalar (T' := T) D p rfl rfl rfl rfl; have a7 := hI.cht D; have b2 := b1.pk1 hI a7; refine yo (yQ (qai b2 Z hL  ((T.cursor.x + 1 + ((k : Nat) : Int))) (T.cursor.y)) ?_); rintro a8 ⟨b3, b4⟩; obtain ⟨a9, b5⟩ := TermAt.next hA0 a7 b4 b3; have aa : Lim W H (qa8 T ((T.cursor.x + 1 + ((k : Nat) : Int))) (T.cursor.y)) := (qR hL ((T.cursor.x + 1 + ((k : Nat) : Int))) (T.cursor.y))
  generalize b6 : (qa8 T ((T.cursor.x + 1 + ((k : Nat) : Int))) (T.cursor.y)) = T72 at a9 aa; have b7 := aa; have cO := b7.all; obtain ⟨b8, cP, cQ, cR, cS, cT, cU, cV, cW, cX, cY, cZ, G⟩ := a9; obtain ⟨d0, d1⟩ := G.g1.head; have d2 : Df t b8 := fun e => G.t1 (e ▸ G.g1.inF); refine yE (nB (qM ?_)); have ab := Ch.on b5 (Ch.refl (· = t) a8) n; have b9 := G.pk2 (Ch.refl (· = t) a8) hI ab; subst b6; refine ⟨rfl, TermAt.eq' b9 ?_, ab⟩; simp only [qcl, qlO, qaL, b, d, N, ↓reduceIte, Int.reduceEq, Int.reduceLT, Int.reduceLE, sB]
 refine ys <| yx 2 <| yc (rE c 10) (fun m => ?_) fun m => ?_
 ·refine yk <| yc (rE c 10) (fun f => ?_) fun f => ?_
  ·refine ysr <| yq 1 ?_; have ac := hI.cht (Ch.refl (· = t) w); have bb := hI.pk1 hI ac; refine yo (yQ (qck bb hT hL  ) ?_); rintro bd ⟨bf, bg⟩; obtain ⟨ad, bh⟩ := TermAt.next hA0 ac bg bf; have ae : Lim W H (qaC T) := (qaO hL)
   generalize bi : (qaC T) = T88 at ad ae; have bj := ae; have d3 := bj.all; obtain ⟨bk, d4, d5, d6, d7, d8, d9, da, db, dc, dd, de, s⟩ := ad; obtain ⟨df, dg⟩ := s.g1.head; have dh : Df t bk := fun e => s.t1 (e ▸ s.g1.inF); refine ye <| q7 <| yq 4 <| yo (yS s.blk fun di bl bm => ?_); have O := zt (Ch.refl (· = t) bd) bm (fun i hi (h : i = t) => h); refine yE (nB (qM ?_)); have bo := s.scalar (T' := ({ T88 with cursor := (Cur.mk T88.cursor.x T88.cursor.y false T88.cursor.sty) } : TS)) O (Blk.to bl (by kernel_rfl)) rfl rfl rfl rfl; have af := Ch.on bh O n; have bp := bo.pk2 O hI af; subst bi; refine ⟨rfl, TermAt.eq' bp ?_, af⟩; simp only [qcl, qlO, qaL, b, d, m, f, ↓reduceIte, Int.reduceEq, Int.reduceLT, Int.reduceLE, sB]
  exfalso; omega
 refine yx 2 <| yc (rE c 11) (fun f => ?_) fun f => ?_
 ·refine yk <| yc (rE c 11) (fun j => ?_) fun j => ?_
  ·refine ysr <| yq 1 ?_; have ag := hI.cht (Ch.refl (· = t) w); have bq := hI.pk1 hI ag; refine yo (yQ (qck bq hT hL  ) ?_); rintro br ⟨bs, bt⟩; obtain ⟨ah, bu⟩ := TermAt.next hA0 ag bt bs; have ai : Lim W H (qaC T) := (qaO hL)
   generalize bv : (qaC T) = T112 at ah ai; have bw := ai; have dj := bw.all; obtain ⟨bx, dk, dl, dm, dn, dp, dq, dr, ds, dt, du, dv, v⟩ := ah; obtain ⟨dw, dx⟩ := v.g1.head; have dy : Df t bx := fun e => v.t1 (e ▸ v.g1.inF); refine ye <| q7 <| yq 4 <| yo (yS v.blk fun dz bz bA => ?_); have P := zt (Ch.refl (· = t) br) bA (fun i hi (h : i = t) => h); refine yE (nB (qM ?_)); have bB := v.scalar (T' := ({ T112 with cursor := (Cur.mk T112.cursor.x T112.cursor.y false T112.cursor.sty) } : TS)) P (Blk.to bz (by kernel_rfl)) rfl rfl rfl rfl; have aj := Ch.on bu P n; have bC := bB.pk2 P hI aj; subst bv; refine ⟨rfl, TermAt.eq' bC ?_, aj⟩; simp only [qcl, qlO, qaL, b, d, m, f, j, ↓reduceIte, Int.reduceEq, Int.reduceLT, Int.reduceLE, sB]
  exfalso; omega
 refine q7 <| yz 2 <| yc (rE c 12) (fun j => ?_) fun j => ?_
 ·refine ysr <| yq 1 ?_; have ak := hI.cht (Ch.refl (· = t) w); have bD := hI.pk1 hI ak; refine yo (yQ (qck bD hT hL  ) ?_); rintro bE ⟨bF, bG⟩; obtain ⟨al, bH⟩ := TermAt.next hA0 ak bG bF; have am : Lim W H (qaC T) := (qaO hL)
  generalize bI : (qaC T) = T135 at al am; have bJ := am; have dA := bJ.all; obtain ⟨bK, dB, dC, dD, dE, dF, dG, dH, dI, dJ, dK, dL, A⟩ := al; obtain ⟨dM, dN⟩ := A.g1.head; have dO : Df t bK := fun e => A.t1 (e ▸ A.g1.inF); refine ye <| q7 <| yq 4 <| yo (yS A.blk fun dP bL bM => ?_); have Q := zt (Ch.refl (· = t) bE) bM (fun i hi (h : i = t) => h); refine yE (nB (qM ?_)); have bN := A.scalar (T' := ({ T135 with cursor := (Cur.mk T135.cursor.x T135.cursor.y false T135.cursor.sty) } : TS)) Q (Blk.to bL (by kernel_rfl)) rfl rfl rfl rfl; have an := Ch.on bH Q n; have bO := bN.pk2 Q hI an; subst bI; refine ⟨rfl, TermAt.eq' bO ?_, an⟩; simp only [qcl, qlO, qaL, b, d, m, f, j, ↓reduceIte, Int.reduceEq, Int.reduceLT, Int.reduceLE, sB]
 refine yx 2 <| yc (rE c 13) (fun B => ?_) fun B => ?_
 ·refine q7 <| yp 6 [] (.l (hI.blk.c 3) .z) ?_; have ao := hI.cht (Ch.refl (· = t) w); have bP := hI.pk1 hI ao; refine yo (yQ (qai bP hT hL  (0) (T.cursor.y)) ?_); rintro ap ⟨bQ, bR⟩; obtain ⟨aq, bS⟩ := TermAt.next hA0 ao bR bQ; have ar : Lim W H (qa8 T (0) (T.cursor.y)) := (qR hL (0) (T.cursor.y))
  generalize bT : (qa8 T (0) (T.cursor.y)) = T158 at aq ar; have bU := ar; have dQ := bU.all; obtain ⟨bV, dR, dS, dT, dU, dV, dW, dX, dY, dZ, e0, e1, I⟩ := aq; obtain ⟨e2, e3⟩ := I.g1.head; have e4 : Df t bV := fun e => I.t1 (e ▸ I.g1.inF); refine yE (nB (qM ?_)); have au := Ch.on bS (Ch.refl (· = t) ap) n; have bW := I.pk2 (Ch.refl (· = t) ap) hI au; subst bT; refine ⟨rfl, TermAt.eq' bW ?_, au⟩; simp only [qcl, qlO, qaL, b, d, m, f, j, B, ↓reduceIte, Int.reduceEq, Int.reduceLT, Int.reduceLE, sB]
 refine ys <| yx 2 <| yc (rE c 14) (fun J => ?_) fun J => ?_
 ·refine yk <| yc (rE c 14) (fun q => ?_) fun q => ?_
  ·refine q7 <| yq 5 <| yo (yS hI.blk fun e5 bX bY => ?_); have av := zt (Ch.refl (· = t) w) bY (fun i hi (h : i = t) => h); refine yE (nB (qM ?_)); have bZ := hI.scalar (T' := ({ T with shift := ((c : Int) == 14) } : TS)) av (Blk.to bX (by kernel_rfl)) rfl rfl rfl rfl; have aw := hI.cht av; have c0 := bZ.pk1 hI aw; refine ⟨rfl, TermAt.eq' c0 ?_, aw⟩; simp only [qcl, qlO, qaL, b, d, m, f, j, B, J, q, ↓reduceIte, Int.reduceEq, Int.reduceLT, Int.reduceLE, sB]
  exfalso; omega
 refine q7 <| yz 2 <| yc (rE c 15) (fun q => ?_) fun q => ?_
 ·refine q7 <| yq 5 <| yo (yS hI.blk fun e6 c1 c2 => ?_); have ax := zt (Ch.refl (· = t) w) c2 (fun i hi (h : i = t) => h); refine yE (nB (qM ?_)); have c3 := hI.scalar (T' := ({ T with shift := ((c : Int) == 14) } : TS)) ax (Blk.to c1 (by kernel_rfl)) rfl rfl rfl rfl; have ay := hI.cht ax; have c4 := c3.pk1 hI ay; refine ⟨rfl, TermAt.eq' c4 ?_, ay⟩; simp only [qcl, qlO, qaL, b, d, m, f, j, B, J, q, ↓reduceIte, Int.reduceEq, Int.reduceLT, Int.reduceLE, sB]
 refine qp (nB (qM ?_)); have az := hI.cht (Ch.refl (· = t) w); have c5 := hI.pk1 hI az; refine ⟨rfl, TermAt.eq' c5 ?_, az⟩; simp only [qcl, qlO, qaL, b, d, m, f, j, B, J, q, ↓reduceIte, Int.reduceEq, Int.reduceLT, Int.reduceLE, sB]
structure Ac where
 kind : Int
 rune : Int
 last : Int
 marks : ByteArray
 params : List Int
 text : ByteArray
abbrev qlP : TypeId := 115
def Ac.vals (a : Ac) (ps : Value) : List Value := [.int .i64 a.kind, .int .i32 a.rune, .int .u8 a.last, .string a.marks, ps, .string a.text]
def PS.vals (p : PS) (ps : Value) : List Value := [.int .i64 p.state, .int .u8 p.utf.b0, .int .u8 p.utf.b1, .int .u8 p.utf.b2, .int .i64 p.utf.n, .string p.marks, ps, .string p.text, .int .i64 p.within]
def E0 : ByteArray := ByteArray.empty
def atP (s : Int) : PS := ⟨s, ⟨0, 0, 0, 0⟩, ByteArray.empty, [], ByteArray.empty, 0⟩
def acP (r : Int) : Ac := ⟨0, r, 0, ByteArray.empty, [], ByteArray.empty⟩
def acX (c : Int) : Ac := ⟨1, 0, c, ByteArray.empty, [], ByteArray.empty⟩
def IntsAt (w : World) (k : IntKind) (o : Option Nat) (n c : Nat) (l : List Int) (K : Nat → Prop) : Prop :=
 Rd w (o.map at0) (l.map (Value.int k)) ∧ l.length = n ∧ (o = none → c = 0) ∧ ∀ b, o = some b → K b ∧ b < w.heap.size
theorem IntsAt.ch {w w' : World} {k : IntKind} {o : Option Nat} {n c : Nat} {l : List Int} {K B : Nat → Prop} (h : IntsAt w k o n c l K) (hc : Ch B w w') (hB : ∀ b, K b → ¬ B b) : IntsAt w' k o n c l K :=
 ⟨h.1.ch hc fun ad e => by
  cases o with
  | none => cases e
  | some b => cases e; exact hB b (h.2.2.2 b rfl).1, h.2.1, h.2.2.1, fun b e => ⟨(h.2.2.2 b e).1, Nat.lt_of_lt_of_le (h.2.2.2 b e).2 hc.size⟩⟩
theorem IntsAt.mono {w : World} {k : IntKind} {o : Option Nat} {n c : Nat} {l : List Int} {K K' : Nat → Prop} (h : IntsAt w k o n c l K) (hK : ∀ b, K b → K' b) : IntsAt w k o n c l K' :=
 ⟨h.1, h.2.1, h.2.2.1, fun b e => ⟨hK b (h.2.2.2 b e).1, (h.2.2.2 b e).2⟩⟩
theorem IntsAt.nil (w : World) (k : IntKind) (K : Nat → Prop) : IntsAt w k none 0 0 [] K := ⟨Rd.nil _ _, rfl, fun _ => rfl, fun _ e => by cases e⟩
def ActV (w : World) (vs : List Value) (a : Ac) (K : Nat → Prop) : Prop := ∃ o n c, vs = a.vals (.slice (o.map at0) n c) ∧ IntsAt w .i64 o n c a.params K
structure ActsAt (w : World) (o : Option Nat) (n c : Nat) (l : List Ac) (K : Nat → Prop) : Prop where
 ex : ∃ vss : List (List Value), Own w qlP 6 o n c vss.flatten ∧ vss.length = l.length ∧ ∀ i (h : i < l.length) (h' : i < vss.length), ActV w vss[i] l[i] K
 len : l.length = n
 oK : ∀ b, o = some b → K b
theorem ActV.ch {w w' : World} {vs : List Value} {a : Ac} {K B : Nat → Prop} (h : ActV w vs a K) (hc : Ch B w w') (hB : ∀ b, K b → ¬ B b) : ActV w' vs a K := by
 obtain ⟨o, n, c, e, h⟩ := h
 exact ⟨o, n, c, e, h.ch hc hB⟩
theorem ActV.mono {w : World} {vs : List Value} {a : Ac} {K K' : Nat → Prop} (h : ActV w vs a K) (hK : ∀ b, K b → K' b) : ActV w vs a K' := by
 obtain ⟨o, n, c, e, h⟩ := h
 exact ⟨o, n, c, e, h.mono hK⟩
theorem ActV.len {w : World} {vs : List Value} {a : Ac} {K : Nat → Prop} (h : ActV w vs a K) : vs.length = 6 := by
 obtain ⟨o, n, c, rfl, h⟩ := h; rfl
theorem ActsAt.ch {w w' : World} {o : Option Nat} {n c : Nat} {l : List Ac} {K B : Nat → Prop} (h : ActsAt w o n c l K) (hc : Ch B w w') (hB : ∀ b, K b → ¬ B b) : ActsAt w' o n c l K := by
 obtain ⟨vss, h1, h2, h3⟩ := h.ex
 exact ⟨⟨vss, h1.ch hc fun g e => hB g (h.oK g e), h2, fun i hi hi' => (h3 i hi hi').ch hc hB⟩, h.len, h.oK⟩
theorem ActsAt.mono {w : World} {o : Option Nat} {n c : Nat} {l : List Ac} {K K' : Nat → Prop} (h : ActsAt w o n c l K) (hK : ∀ b, K b → K' b) : ActsAt w o n c l K' := by
 obtain ⟨vss, h1, h2, h3⟩ := h.ex
 exact ⟨⟨vss, h1, h2, fun i hi hi' => (h3 i hi hi').mono hK⟩, h.len, fun b e => hK b (h.oK b e)⟩
theorem ActsAt.nil (w : World) (K : Nat → Prop) : ActsAt w none 0 0 [] K := ⟨⟨[], Own.nil _ _ _, rfl, fun i h => by simp at h⟩, rfl, fun b e => by cases e⟩
theorem qkg {vss : List (List Value)} (h : ∀ v ∈ vss, v.length = 6) {i : Nat} (hi : i < vss.length) {k : Nat} (hk : k < 6) : vss.flatten[i * 6 + k]? = vss[i][k]? := by
 induction vss generalizing i with
 | nil => simp at hi
 | cons v vss ih =>
  have hv := h v (List.mem_cons_self ..)
  cases i with
  | zero => simp [List.getElem?_append_left, hv, hk]
  | succ i =>
   rw [List.flatten_cons, List.getElem?_append_right (by omega), hv, show (i + 1) * 6 + k - 6 = i * 6 + k by omega]
   exact ih (fun x hx => h x (List.mem_cons_of_mem _ hx)) (by simpa using hi)
abbrev tInt : TypeId := 3
abbrev qkh : TypeId := 21
theorem qcV (l : List Int) {k : IntKind} : ((l.map (Value.int k)).all fun c => c.oneCell') = true := by
 refine List.all_eq_true.2 fun v hv => ?_
 obtain ⟨x, _, rfl⟩ := List.mem_map.1 hv
 rfl
theorem qax (c : Int) : (qq [c]).size = 1 := rfl
theorem IntsAt.old {w : World} {k : IntKind} {o : Option Nat} {n c : Nat} {l : List Int} {K : Nat → Prop} {w0 w1 : World} (h : IntsAt w k o n c l K) : IntsAt w k o n c l (fun b => o = some b ∨ (w0.heap.size ≤ b ∧ b < w1.heap.size)) :=
 ⟨h.1, h.2.1, h.2.2.1, fun b e => ⟨.inl e, (h.2.2.2 b e).2⟩⟩
theorem qhx {w w0 : World} {k : IntKind} {e : TypeId} {o : Option Nat} {n c : Nat} {l : List Int} (h : Own w e 1 o n c (l.map (Value.int k))) (hlo : ∀ b, o = some b → w0.heap.size ≤ b) : IntsAt w k o n c l (fun b => w0.heap.size ≤ b ∧ b < w.heap.size) := by
 refine ⟨h.rd, by have := h.1; rw [List.length_map] at this; omega, fun e => (h.2.2.2.1 e).2, fun b e => ?_⟩
 subst e
 exact ⟨⟨hlo b rfl, h.lt⟩, h.lt⟩
theorem qgu {w : World} {k : IntKind} {e : TypeId} {b n c : Nat} {l : List Int} {K : Nat → Prop} (h : Own w e 1 (some b) n c (l.map (Value.int k))) (hK : K b) : IntsAt w k (some b) n c l K :=
 ⟨h.rd, by have := h.1; rw [List.length_map] at this; omega, (fun e => by cases e), fun b e => by cases e; exact ⟨hK, h.lt⟩⟩
theorem IntsAt.or {w : World} {k : IntKind} {o : Option Nat} {n c : Nat} {l : List Int} {K A : Nat → Prop} (h : IntsAt w k o n c l K) : IntsAt w k o n c l (fun b => A b ∨ K b) := h.mono fun _ h => .inr h
theorem ActsAt.one {w : World} {b : Nat} {K : Nat → Prop} {a : Ac} {ps : Value} (h : Blk w b (a.vals ps) qlP) (hb : K b) (hp : ∃ o n c, ps = .slice (o.map at0) n c ∧ IntsAt w .i64 o n c a.params K) : ActsAt w (some b) 1 1 [a] K := by
 obtain ⟨o, n, c, rfl, hp⟩ := hp
 refine ⟨⟨[a.vals (.slice (o.map at0) n c)], ?_, rfl, fun i hi hi' => ?_⟩, rfl, fun b' e => by cases e; exact hb⟩
 ·simp only [List.flatten_cons, List.flatten_nil, List.append_nil]
  exact Own.blk h rfl (by decide)
 ·obtain rfl : i = 0 := by simpa using hi
  exact ⟨o, n, c, rfl, hp⟩
def Fed (w w' : World) (e : Ending) (po : Option Nat) (p' : PS) (l : List Ac) : Prop :=
 ∃ po' pn' pc' o n c, e = .returned (.tuple #[.agg (p'.vals (.slice (po'.map at0) pn' pc')).toArray, .slice (o.map at0) n c]) ∧
  IntsAt w' .i64 po' pn' pc' p'.params (fun b => po = some b ∨ (w.heap.size ≤ b ∧ b < w'.heap.size)) ∧ ActsAt w' o n c l (fun b => (w.heap.size ≤ b ∧ b < w'.heap.size) ∧ po' ≠ some b) ∧ Ch (fun _ => False) w w'
theorem Fed.mk2 {w w' : World} {e : Ending} {po : Option Nat} {p' q : PS} {l m : List Ac} (po' : Option Nat) (pn' pc' : Nat) (o : Option Nat) (n c : Nat) (he : e = .returned (.tuple #[.agg (p'.vals (.slice (po'.map at0) pn' pc')).toArray, .slice (o.map at0) n c]))
  (hp : IntsAt w' .i64 po' pn' pc' p'.params (fun b => po = some b ∨ (w.heap.size ≤ b ∧ b < w'.heap.size))) (ha : ActsAt w' o n c l (fun b => (w.heap.size ≤ b ∧ b < w'.heap.size) ∧ po' ≠ some b)) (hc : Ch (fun _ => False) w w') (hq : q = p' ∧ m = l) : Fed w w' e po q m := by
 obtain ⟨rfl, rfl⟩ := hq
 exact ⟨po', pn', pc', o, n, c, he, hp, ha, hc⟩
theorem Fed.mk' {w w' : World} {e : Ending} {po : Option Nat} {p' q : PS} {l m : List Ac} (po' : Option Nat) (pn' pc' : Nat) (o : Option Nat) (n c : Nat) (hx : (o = none ∧ n = 0 ∧ c = 0 ∧ l = []) ∨ ∀ b, po' = some b → b < w.heap.size) (he : e = .returned (.tuple #[.agg (p'.vals (.slice (po'.map at0) pn' pc')).toArray, .slice (o.map at0) n c]))
  (hp : IntsAt w' .i64 po' pn' pc' p'.params (fun b => po = some b ∨ (w.heap.size ≤ b ∧ b < w'.heap.size))) (ha : ActsAt w' o n c l (fun b => w.heap.size ≤ b ∧ b < w'.heap.size)) (hc : Ch (fun _ => False) w w') (hq : q = p' ∧ m = l) : Fed w w' e po q m := by
 refine Fed.mk2 po' pn' pc' o n c he hp ?_ hc hq
 rcases hx with ⟨rfl, rfl, rfl, rfl⟩ | hx
 ·exact ActsAt.nil _ _
 ·exact ha.mono fun b hb => ⟨hb, fun e => by have := hx b e; omega⟩
def qaI (l : List Int) : List Int := if l.length = 0 then [0] else l
theorem qeN (l : List Int) : 1 ≤ (qaI l).length ∧ (qaI l).length ≤ max l.length 1 := by
 unfold qaI
 split
 ·simp; omega
 ·omega
def qeO (l : List Int) : Int := l.getD (l.length - 1) 0
def qdW (l : List Int) (x : Int) : List Int := l.set (l.length - 1) x
theorem qak {l : List Int} {a b : Int} (h : ∀ x ∈ l, a ≤ x ∧ x ≤ b) (h0 : a ≤ 0 ∧ 0 ≤ b) (i : Nat) : a ≤ l.getD i 0 ∧ l.getD i 0 ≤ b := by
 rw [List.getD]
 by_cases hi : i < l.length
 ·rw [List.getElem?_eq_getElem hi]; exact h _ (List.getElem_mem _)
 ·rw [List.getElem?_eq_none (by omega)]; exact h0
theorem qjm {l : List Int} (h : ∀ x ∈ l, 0 ≤ x ∧ x ≤ 9999) : 0 ≤ qeO (qaI l) ∧ qeO (qaI l) ≤ 9999 := by
 refine qak (a := 0) (b := 9999) (fun x hx => ?_) (by decide) _
 unfold qaI at hx
 split at hx
 ·simp at hx; omega
 ·exact h x hx
theorem qlQ {w : World} {b n c : Nat} {l : List Int} {i : Int} (h : Own w tInt 1 (some b) n c (l.map (Value.int .i64))) (hi : i = (n : Int) - 1 ∧ 1 ≤ n) : w.cell? ⟨b, 0 + i.toNat * 1, none⟩ = some (.int .i64 (qeO l)) := by
 have hl : l.length = n := by have := h.1; rw [List.length_map] at this; omega
 refine qbs h.rd _ _ ?_
 rw [List.getElem?_map, Nat.mul_one, show i.toNat = l.length - 1 by omega, List.getElem?_eq_getElem (by omega)]
 simp [qeO, List.getD, List.getElem?_eq_getElem (show l.length - 1 < l.length by omega)]
theorem qhy {w w' : World} {b n c : Nat} {l : List Int} {r : List Value} {i x : Int} (h : Own w tInt 1 (some b) n c (l.map (Value.int .i64))) (hr : r.length = (c - n) * 1) (hi : i = (n : Int) - 1 ∧ 1 ≤ n)
  (hb : Blk w' b (put (l.map (Value.int .i64) ++ r) (0 + i.toNat * 1) [.int .i64 x]) tInt) : Own w' tInt 1 (some b) n c ((qdW l x).map (Value.int .i64)) := by
 have hl : l.length = n := by have := h.1; rw [List.length_map] at this; omega
 rw [show i.toNat = n - 1 by omega] at hb
 have := qit (v := .int .i64 x) h hr (by omega) hb
 unfold qdW
 rw [List.map_set, hl]
 exact this
def qv (p : PS) (s : Int) : PS × List Ac := (atP 0, [⟨if s = 6 then 5 else 4, 0, 0, ByteArray.empty, [], p.text⟩])
def qt (p : PS) (c : Int) : PS × List Ac :=
 if c < 48 then (if (p.marks.size : Int) < 2 then { p with marks := p.marks ++ qq [c], state := 2 } else { p with state := 2 }, [])
 else if p.state = 1 ∧ c = 91 then (atP 3, [])
 else if p.state = 1 ∧ c = 93 then (atP 5, [])
 else if p.state = 1 ∧ c = 80 then (atP 6, [])
 else (atP 0, [⟨2, 0, c, p.marks, [], ByteArray.empty⟩])
def qJ (p : PS) (c : Int) : PS × List Ac :=
 if c = 27 then ({ p with within := p.state, state := 7 }, [])
 else if c = 7 ∧ p.state = 5 then qv p 5
 else if c = 24 ∨ c = 26 then (atP 0, [])
 else if 32 ≤ c ∧ (p.text.size : Int) < 40 then ({ p with text := p.text ++ qq [c] }, [])
 else (p, [])
def qb8 (p : PS) (c : Int) : PS × List Ac :=
 if 48 ≤ c ∧ c ≤ 57 then ({ p with params := qdW (qaI p.params) (min (10 * qeO (qaI p.params) + (c - 48)) 9999) }, [])
 else if c = 59 then (if ((qaI p.params).length : Int) < 8 then { p with params := qaI p.params ++ [0] } else { p with params := qaI p.params }, [])
 else if 64 ≤ c then (if p.state = 4 then (atP 0, []) else (atP 0, [⟨3, 0, c, p.marks, p.params, ByteArray.empty⟩]))
 else if (p.marks.size : Int) = 2 ∨ c = 58 then ({ p with state := 4 }, [])
 else ({ p with marks := p.marks ++ qq [c] }, [])
set_option maxHeartbeats 4000000 in
theorem qa9 (s : Int) (w : World) : Calls Tryz.prog 75 [iX s].toArray w fun e w' => e = .returned (.agg ((atP s).vals (nX)).toArray) ∧ Ch (fun _ => False) w w' := by
 refine yA Tryz.func75 rfl <| ysr <| yo (yN [iX 0, uX 0, uX 0, uX 0, iX 0, oX, nX, oX, iX 0] 55 fun m b c n d f => ?_); have o := zn c (zm w); have g := zu (zm w) f iZ; refine ye <| ysr <| yq 2 <| yo (yT [iX s, uX 0, uX 0, uX 0, iX 0, oX, nX, oX, iX 0] d fun p j k => ?_); have l := zu g k (fun i hi (h : i = b) => by omega); refine ye <| qd (qdg (.agg #[iX s, uX 0, uX 0, uX 0, iX 0, oX, nX, oX, iX 0]) (.a (j.cs 0 9) .z) ?_); exact ⟨rfl, Up.ch l⟩
set_option maxHeartbeats 4000000 in
theorem qfH {w : World} {po : Option Nat} {pn pc : Nat} {p : PS} (hP : IntsAt w .i64 po pn pc p.params (fun b => po = some b)) (s : Int) : Calls Tryz.prog 74 [.agg #[iX p.state, uX p.utf.b0, uX p.utf.b1, uX p.utf.b2, iX p.utf.n, .string p.marks, .slice (po.map at0) pn pc, .string p.text, iX p.within], iX s].toArray w fun e w' => Fed w w' e po (qv p s).1 (qv p s).2 := by
 refine yA Tryz.func74 rfl <| ysr <| yo (yN [iX p.state, uX p.utf.b0, uX p.utf.b1, uX p.utf.b2, iX p.utf.n, .string p.marks, .slice (po.map at0) pn pc, .string p.text, iX p.within] 55 fun aV O ai aW m aj => ?_); have aX := zn ai (zm w); have P := zu (zm w) aj iZ; refine yo (yN [iX 0, uX 0, uX 0, uX 0, iX 0, oX, nX, oX, iX 0] 55 fun aY d ak aZ Q R => ?_); have b3 := zn ak P; have S := zu P R iZ; have T := m.ch R id; refine yz 3 <| yx 1 <| ys <| yx 2 <| yc (rE s 6) (fun f => ?_) fun f => ?_
 ·refine q7 <| yz 1 <| ys <| qY (· = d) [5] (by kernel_rfl) (fun b4 b5 o => ?_); have q := zu S o iZ; have al := T.ch o id; have r := Q.ch o id; refine ydC (uL 1 4) [] (fun u hu => (.l (qg hu (al.c 7) (fun (h : O = d) => by have := m.lt; omega)) .z)) <| qbl 0 5 (by kernel_rfl) (by decide) ?_ ?_
  ·refine qav 0 _ (by kernel_rfl) rfl (yQ (qa9 0 _) fun b6 t => ?_); have v := zu q t iZ; have x := r.ch t id; refine qo t eZ <| qbl 5 6 (by kernel_rfl) (by decide) ?_ ?_
   ·refine qbD 5 _ (by kernel_rfl) rfl (yB [iX 5, rX 0, uX 0, oX, nX, .string p.text] 115 1 fun b7 y am b8 an U => ?_); have b9 := zn am v; have ao := zu v U iZ; have ap := x.ch U id; refine qaw (B := fun k => k = d) <| yH 6 (yT [iX 0, uX 0, uX 0, uX 0, iX 0, oX, nX, oX, iX 0] ap fun ba aq A => ?_); have V := zu ao A (fun i hi (h : i = d) => by omega); have W := an.ch A (fun (h : y = d) => by have := x.lt; omega); refine qo A iZ <| ydC [7] [] (fun u hu => .z) <| yDe (nS ?_); refine qd (yR2 [.agg #[iX 0, uX 0, uX 0, uX 0, iX 0, oX, nX, oX, iX 0], .slice (some ⟨y, 0, none⟩) 1 1] (.a (aq.cs 0 9) .z) ?_); refine Fed.mk' (p' := (PS.mk 0 ⟨0, 0, 0, 0⟩ ByteArray.empty [] ByteArray.empty 0)) (l := [Ac.mk 5 0 0 ByteArray.empty [] p.text]) none 0 0 (some y) 1 1 (.inr (fun b h => by cases h)) rfl (IntsAt.nil _ _ _) (ActsAt.one W ⟨by have := zs V; omega, W.lt⟩ ⟨none, 0, 0, rfl, IntsAt.nil _ _ _⟩) (Up.ch V) ?_; simp only [qv, atP, f, ↓reduceIte, Int.reduceEq, Int.reduceLE, Int.reduceLT, reduceCtorEq, sA, ne_eq]
   refine qav 6 _ (by kernel_rfl) rfl (yT [iX 0, uX 0, uX 0, uX 0, iX 0, oX, nX, oX, iX 0] x fun bb ar X => ?_); have Y := zu v X (fun i hi (h : i = d) => by omega); refine qo X iZ <| yK 5 (yB [iX 5, rX 0, uX 0, oX, nX, .string p.text] 115 1 fun bc Z au bd a0 a1 => ?_); have bf := zn au Y; have a2 := zu Y a1 iZ; have av := ar.ch a1 id; refine q9 <| yd [7] [] .z <| yDe (nS ?_); refine qd (yR2 [.agg #[iX 0, uX 0, uX 0, uX 0, iX 0, oX, nX, oX, iX 0], .slice (some ⟨Z, 0, none⟩) 1 1] (.a (av.cs 0 9) .z) ?_); refine Fed.mk' (p' := (PS.mk 0 ⟨0, 0, 0, 0⟩ ByteArray.empty [] ByteArray.empty 0)) (l := [Ac.mk 5 0 0 ByteArray.empty [] p.text]) none 0 0 (some Z) 1 1 (.inr (fun b h => by cases h)) rfl (IntsAt.nil _ _ _) (ActsAt.one a0 ⟨by have := zs a2; omega, a0.lt⟩ ⟨none, 0, 0, rfl, IntsAt.nil _ _ _⟩) (Up.ch a2) ?_; simp only [qv, atP, f, ↓reduceIte, Int.reduceEq, Int.reduceLE, Int.reduceLT, reduceCtorEq, sA, ne_eq]
  refine qbD 5 _ (by kernel_rfl) rfl (yB [iX 5, rX 0, uX 0, oX, nX, .string p.text] 115 1 fun bg C aw bh ax a3 => ?_); have bi := zn aw q; have ay := zu q a3 iZ; have az := r.ch a3 id; refine qaw (B := fun k => k = d) <| yH 0 (yQ (qa9 0 _) fun bj g => ?_); have aA := zu ay g iZ; have aB := az.ch g id; have aC := ax.ch g id; refine qo g eZ <| yH 6 (yT [iX 0, uX 0, uX 0, uX 0, iX 0, oX, nX, oX, iX 0] aB fun bk aD D => ?_); have a4 := zu aA D (fun i hi (h : i = d) => by omega); have a5 := aC.ch D (fun (h : C = d) => by have := r.lt; omega); refine qo D iZ <| ydC [7] [] (fun u hu => .z) <| yDe (nS ?_); refine qd (yR2 [.agg #[iX 0, uX 0, uX 0, uX 0, iX 0, oX, nX, oX, iX 0], .slice (some ⟨C, 0, none⟩) 1 1] (.a (aD.cs 0 9) .z) ?_); refine Fed.mk' (p' := (PS.mk 0 ⟨0, 0, 0, 0⟩ ByteArray.empty [] ByteArray.empty 0)) (l := [Ac.mk 5 0 0 ByteArray.empty [] p.text]) none 0 0 (some C) 1 1 (.inr (fun b h => by cases h)) rfl (IntsAt.nil _ _ _) (ActsAt.one a5 ⟨by have := zs a4; omega, a5.lt⟩ ⟨none, 0, 0, rfl, IntsAt.nil _ _ _⟩) (Up.ch a4) ?_; simp only [qv, atP, f, ↓reduceIte, Int.reduceEq, Int.reduceLE, Int.reduceLT, reduceCtorEq, sA, ne_eq]
 refine yk <| ys <| qY (· = d) [5] (by kernel_rfl) (fun bl bm E => ?_); have F := zu S E iZ; have aE := T.ch E id; have G := Q.ch E id; refine ydC (uL 1 4) [] (fun u hu => (.l (qg hu (aE.c 7) (fun (h : O = d) => by have := m.lt; omega)) .z)) <| qbl 0 5 (by kernel_rfl) (by decide) ?_ ?_
 ·refine qav 0 _ (by kernel_rfl) rfl (yQ (qa9 0 _) fun bn H => ?_); have I := zu F H iZ; have J := G.ch H id; refine qo H eZ <| qbl 5 6 (by kernel_rfl) (by decide) ?_ ?_
  ·refine qbD 5 _ (by kernel_rfl) rfl (yB [iX 4, rX 0, uX 0, oX, nX, .string p.text] 115 1 fun bo K aF bp aG a6 => ?_); have bq := zn aF I; have aH := zu I a6 iZ; have aI := J.ch a6 id; refine qaw (B := fun k => k = d) <| yH 6 (yT [iX 0, uX 0, uX 0, uX 0, iX 0, oX, nX, oX, iX 0] aI fun br aJ L => ?_); have a7 := zu aH L (fun i hi (h : i = d) => by omega); have a8 := aG.ch L (fun (h : K = d) => by have := J.lt; omega); refine qo L iZ <| ydC [7] [] (fun u hu => .z) <| yDe (nS ?_); refine qd (yR2 [.agg #[iX 0, uX 0, uX 0, uX 0, iX 0, oX, nX, oX, iX 0], .slice (some ⟨K, 0, none⟩) 1 1] (.a (aJ.cs 0 9) .z) ?_); refine Fed.mk' (p' := (PS.mk 0 ⟨0, 0, 0, 0⟩ ByteArray.empty [] ByteArray.empty 0)) (l := [Ac.mk 4 0 0 ByteArray.empty [] p.text]) none 0 0 (some K) 1 1 (.inr (fun b h => by cases h)) rfl (IntsAt.nil _ _ _) (ActsAt.one a8 ⟨by have := zs a7; omega, a8.lt⟩ ⟨none, 0, 0, rfl, IntsAt.nil _ _ _⟩) (Up.ch a7) ?_; simp only [qv, atP, f, ↓reduceIte, Int.reduceEq, Int.reduceLE, Int.reduceLT, reduceCtorEq, sA, ne_eq]
  refine qav 6 _ (by kernel_rfl) rfl (yT [iX 0, uX 0, uX 0, uX 0, iX 0, oX, nX, oX, iX 0] J fun bs aK a9 => ?_); have aa := zu I a9 (fun i hi (h : i = d) => by omega); refine qo a9 iZ <| yK 5 (yB [iX 4, rX 0, uX 0, oX, nX, .string p.text] 115 1 fun bt ab aL bu ac ad => ?_); have bv := zn aL aa; have ae := zu aa ad iZ; have aM := aK.ch ad id; refine q9 <| yd [7] [] .z <| yDe (nS ?_); refine qd (yR2 [.agg #[iX 0, uX 0, uX 0, uX 0, iX 0, oX, nX, oX, iX 0], .slice (some ⟨ab, 0, none⟩) 1 1] (.a (aM.cs 0 9) .z) ?_); refine Fed.mk' (p' := (PS.mk 0 ⟨0, 0, 0, 0⟩ ByteArray.empty [] ByteArray.empty 0)) (l := [Ac.mk 4 0 0 ByteArray.empty [] p.text]) none 0 0 (some ab) 1 1 (.inr (fun b h => by cases h)) rfl (IntsAt.nil _ _ _) (ActsAt.one ac ⟨by have := zs ae; omega, ac.lt⟩ ⟨none, 0, 0, rfl, IntsAt.nil _ _ _⟩) (Up.ch ae) ?_; simp only [qv, atP, f, ↓reduceIte, Int.reduceEq, Int.reduceLE, Int.reduceLT, reduceCtorEq, sA, ne_eq]
 refine qbD 5 _ (by kernel_rfl) rfl (yB [iX 4, rX 0, uX 0, oX, nX, .string p.text] 115 1 fun bw M aN bx aO af => ?_); have bz := zn aN F; have aP := zu F af iZ; have aQ := G.ch af id; refine qaw (B := fun k => k = d) <| yH 0 (yQ (qa9 0 _) fun bA j => ?_); have aR := zu aP j iZ; have aS := aQ.ch j id; have aT := aO.ch j id; refine qo j eZ <| yH 6 (yT [iX 0, uX 0, uX 0, uX 0, iX 0, oX, nX, oX, iX 0] aS fun bB aU N => ?_); have ag := zu aR N (fun i hi (h : i = d) => by omega); have ah := aT.ch N (fun (h : M = d) => by have := G.lt; omega); refine qo N iZ <| ydC [7] [] (fun u hu => .z) <| yDe (nS ?_); refine qd (yR2 [.agg #[iX 0, uX 0, uX 0, uX 0, iX 0, oX, nX, oX, iX 0], .slice (some ⟨M, 0, none⟩) 1 1] (.a (aU.cs 0 9) .z) ?_); refine Fed.mk' (p' := (PS.mk 0 ⟨0, 0, 0, 0⟩ ByteArray.empty [] ByteArray.empty 0)) (l := [Ac.mk 4 0 0 ByteArray.empty [] p.text]) none 0 0 (some M) 1 1 (.inr (fun b h => by cases h)) rfl (IntsAt.nil _ _ _) (ActsAt.one ah ⟨by have := zs ag; omega, ah.lt⟩ ⟨none, 0, 0, rfl, IntsAt.nil _ _ _⟩) (Up.ch ag) ?_; simp only [qv, atP, f, ↓reduceIte, Int.reduceEq, Int.reduceLE, Int.reduceLT, reduceCtorEq, sA, ne_eq]
set_option maxHeartbeats 4000000 in
theorem qfI {w : World} {po : Option Nat} {pn pc : Nat} {p : PS} (hP : IntsAt w .i64 po pn pc p.params (fun b => po = some b)) (c : Int) : Calls Tryz.prog 78 [.agg #[iX p.state, uX p.utf.b0, uX p.utf.b1, uX p.utf.b2, iX p.utf.n, .string p.marks, .slice (po.map at0) pn pc, .string p.text, iX p.within], uX c].toArray w fun e w' => Fed w w' e po (qt p c).1 (qt p c).2 := by
 refine yA Tryz.func78 rfl <| ysr <| yo (yN [iX p.state, uX p.utf.b0, uX p.utf.b1, uX p.utf.b2, iX p.utf.n, .string p.marks, .slice (po.map at0) pn pc, .string p.text, iX p.within] 55 fun bX m aD bY v a4 => ?_); have F := zn aD (zm w); have a5 := zu (zm w) a4 iZ; have aE := hP.ch a4 iZ; refine yo (yN [iX 0, uX 0, uX 0, uX 0, iX 0, oX, nX, oX, iX 0] 55 fun bZ d aF c0 t G => ?_); have a6 := zn aF a5; have s := zu a5 G iZ; have a7 := aE.ch G iZ; have o := v.ch G id; refine yz 3 <| ys <| q8 <| yx 3 <| yc (rL c 48) (fun g => ?_) fun g => ?_
 ·refine ys <| ysr <| yp 4 [] (.l (o.c 5) .z) <| ye <| yc (rL ((p.marks).size : Int) 2) (fun f => ?_) fun f => ?_
  ·refine q7 <| yp 3 [] (.l (o.c 5) .z) <| yo (yB [uX c] 5 1 fun c1 aG aH c2 aI C => ?_); have c3 := zn aH s; have aJ := zu s C iZ; have aK := a7.ch C iZ; have aL := o.ch C id; have aM := t.ch C id; refine yo (qbQ (some ⟨aG, 0, none⟩) 1 1 [c] (some 17) (by kernel_rfl) (Rd.all aI) rfl ?_); refine yp 7 [] (.p (q := (p.marks).size + ((qq [c])).size ≤ 9223372036854775807) (by simp only [qax]; omega) .z) <| yo (yT [iX p.state, uX p.utf.b0, uX p.utf.b1, uX p.utf.b2, iX p.utf.n, .string (p.marks ++ (qq [c])), .slice (po.map at0) pn pc, .string p.text, iX p.within] aL fun c4 aN H => ?_); have aO := zu aJ H (fun i hi (h : i = m) => by omega); have aP := aK.ch H (fun b hb (e : b = m) => by have := (hP.2.2.2 b hb).2; have := F; omega); have aQ := aM.ch H (fun (h : d = m) => by have := v.lt; omega); refine ye <| ysr <| yq 1 <| yo (yT [iX 2, uX p.utf.b0, uX p.utf.b1, uX p.utf.b2, iX p.utf.n, .string (p.marks ++ (qq [c])), .slice (po.map at0) pn pc, .string p.text, iX p.within] aN fun c5 aR I => ?_); have aS := zu aO I (fun i hi (h : i = m) => by omega); have aT := aP.ch I (fun b hb (e : b = m) => by have := (hP.2.2.2 b hb).2; have := F; omega); have aU := aQ.ch I (fun (h : d = m) => by have := v.lt; omega); refine ye <| ysr <| yp 1 [] (.a (aR.cs 0 9) .z) <| yo (yT [iX 2, uX p.utf.b0, uX p.utf.b1, uX p.utf.b2, iX p.utf.n, .string (p.marks ++ (qq [c])), .slice (po.map at0) pn pc, .string p.text, iX p.within] aU fun c6 aV a8 => ?_); have aW := zu aS a8 (fun i hi (h : i = d) => by omega)
   have aX := aT.ch a8 (fun b hb (e : b = d) => by have := (hP.2.2.2 b hb).2; have := a6; omega); refine yz 3 <| qd (rB (rS (yR2 [.agg #[iX 2, uX p.utf.b0, uX p.utf.b1, uX p.utf.b2, iX p.utf.n, .string (p.marks ++ (qq [c])), .slice (po.map at0) pn pc, .string p.text, iX p.within], nX] (.a (aV.cs 0 9) .z) ?_))); refine Fed.mk' (p' := (PS.mk 2 ⟨p.utf.b0, p.utf.b1, p.utf.b2, p.utf.n⟩ (p.marks ++ (qq [c])) p.params p.text p.within)) (l := []) po pn pc none 0 0 (.inl ⟨rfl, rfl, rfl, rfl⟩) rfl (aX.old) (ActsAt.nil _ _) (Up.ch aW) ?_; simp only [qt, atP, g, f, ↓reduceIte, Int.reduceEq, Int.reduceLE, Int.reduceLT, reduceCtorEq, sA, ne_eq]
  refine yk <| ysr <| yq 1 <| yo (yT [iX 2, uX p.utf.b0, uX p.utf.b1, uX p.utf.b2, iX p.utf.n, .string p.marks, .slice (po.map at0) pn pc, .string p.text, iX p.within] o fun c7 aY J => ?_); have aZ := zu s J (fun i hi (h : i = m) => by omega); have b3 := a7.ch J (fun b hb (e : b = m) => by have := (hP.2.2.2 b hb).2; have := F; omega); have b4 := t.ch J (fun (h : d = m) => by have := v.lt; omega); refine ye <| ysr <| yp 1 [] (.a (aY.cs 0 9) .z) <| yo (yT [iX 2, uX p.utf.b0, uX p.utf.b1, uX p.utf.b2, iX p.utf.n, .string p.marks, .slice (po.map at0) pn pc, .string p.text, iX p.within] b4 fun c8 b5 a9 => ?_); have b6 := zu aZ a9 (fun i hi (h : i = d) => by omega); have b7 := b3.ch a9 (fun b hb (e : b = d) => by have := (hP.2.2.2 b hb).2; have := a6; omega); refine yz 3 <| qd (rB (rS (yR2 [.agg #[iX 2, uX p.utf.b0, uX p.utf.b1, uX p.utf.b2, iX p.utf.n, .string p.marks, .slice (po.map at0) pn pc, .string p.text, iX p.within], nX] (.a (b5.cs 0 9) .z) ?_))); refine Fed.mk' (p' := (PS.mk 2 ⟨p.utf.b0, p.utf.b1, p.utf.b2, p.utf.n⟩ p.marks p.params p.text p.within)) (l := []) po pn pc none 0 0 (.inl ⟨rfl, rfl, rfl, rfl⟩) rfl (b7.old) (ActsAt.nil _ _) (Up.ch b6) ?_; simp only [qt, atP, g, f, ↓reduceIte, Int.reduceEq, Int.reduceLE, Int.reduceLT, reduceCtorEq, sA, ne_eq]
 refine ysr <| yp 4 [] (.l (o.c 0) .z) <| yw [26] (rE p.state 1) (fun f => ?_) fun f => ?_
 ·refine yz 8 <| yc (rE c 91) (fun j => ?_) fun j => ?_
  ·refine ysr <| yo (yQ (qa9 3 _) fun c9 aa => ?_); have b8 := zu s aa iZ; have b9 := t.ch aa id; refine yo (yT [iX 3, uX 0, uX 0, uX 0, iX 0, oX, nX, oX, iX 0] b9 fun ca ba bb => ?_); have bc := zu b8 bb (fun i hi (h : i = d) => by omega); refine yz 3 <| qd (rB (rS (yR2 [.agg #[iX 3, uX 0, uX 0, uX 0, iX 0, oX, nX, oX, iX 0], nX] (.a (ba.cs 0 9) .z) ?_))); refine Fed.mk' (p' := (PS.mk 3 ⟨0, 0, 0, 0⟩ ByteArray.empty [] ByteArray.empty 0)) (l := []) none 0 0 none 0 0 (.inl ⟨rfl, rfl, rfl, rfl⟩) rfl (IntsAt.nil _ _ _) (ActsAt.nil _ _) (Up.ch bc) ?_; simp only [qt, atP, g, f, j, ↓reduceIte, Int.reduceEq, Int.reduceLE, Int.reduceLT, reduceCtorEq, sA, ne_eq]
  refine ysr <| yp 4 [] (.l (o.c 0) .z) <| yw [35] (rE p.state 1) (fun r => ?_) fun r => ?_
  ·refine yz 8 <| yc (rE c 93) (fun x => ?_) fun x => ?_
   ·refine ysr <| yo (yQ (qa9 5 _) fun cb ab => ?_); have bd := zu s ab iZ; have bf := t.ch ab id; refine yo (yT [iX 5, uX 0, uX 0, uX 0, iX 0, oX, nX, oX, iX 0] bf fun cc bg bh => ?_); have bi := zu bd bh (fun i hi (h : i = d) => by omega); refine yz 3 <| qd (rB (rS (yR2 [.agg #[iX 5, uX 0, uX 0, uX 0, iX 0, oX, nX, oX, iX 0], nX] (.a (bg.cs 0 9) .z) ?_))); refine Fed.mk' (p' := (PS.mk 5 ⟨0, 0, 0, 0⟩ ByteArray.empty [] ByteArray.empty 0)) (l := []) none 0 0 none 0 0 (.inl ⟨rfl, rfl, rfl, rfl⟩) rfl (IntsAt.nil _ _ _) (ActsAt.nil _ _) (Up.ch bi) ?_; simp only [qt, atP, g, f, j, r, x, ↓reduceIte, Int.reduceEq, Int.reduceLE, Int.reduceLT, reduceCtorEq, sA, ne_eq]
   refine ysr <| yp 4 [] (.l (o.c 0) .z) <| yw [44] (rE p.state 1) (fun y => ?_) fun y => ?_
   ·refine yz 8 <| yc (rE c 80) (fun A => ?_) fun A => ?_
    ·refine ysr <| yo (yQ (qa9 6 _) fun cd ac => ?_); have bj := zu s ac iZ; have bk := t.ch ac id; refine yo (yT [iX 6, uX 0, uX 0, uX 0, iX 0, oX, nX, oX, iX 0] bk fun ce bl bm => ?_); have bn := zu bj bm (fun i hi (h : i = d) => by omega); refine yz 3 <| qd (rB (rS (yR2 [.agg #[iX 6, uX 0, uX 0, uX 0, iX 0, oX, nX, oX, iX 0], nX] (.a (bl.cs 0 9) .z) ?_))); refine Fed.mk' (p' := (PS.mk 6 ⟨0, 0, 0, 0⟩ ByteArray.empty [] ByteArray.empty 0)) (l := []) none 0 0 none 0 0 (.inl ⟨rfl, rfl, rfl, rfl⟩) rfl (IntsAt.nil _ _ _) (ActsAt.nil _ _) (Up.ch bn) ?_; simp only [qt, atP, g, f, j, r, x, y, A, ↓reduceIte, Int.reduceEq, Int.reduceLE, Int.reduceLT, reduceCtorEq, sA, ne_eq]
    refine qp (nB (nS ?_)); refine ys <| qY (· = d) [5] (by kernel_rfl) (fun cf cg K => ?_); have L := zu s K iZ; have bo := o.ch K id; have M := t.ch K id; refine ydC (uL 1 4) [] (fun u hu => (.l (qg hu (bo.c 5) (fun (h : m = d) => by have := v.lt; omega)) .z)) <| qbl 0 5 (by kernel_rfl) (by decide) ?_ ?_
    ·refine qav 0 _ (by kernel_rfl) rfl (yQ (qa9 0 _) fun ci N => ?_); have O := zu L N iZ; have P := M.ch N id; refine qo N eZ <| qbl 5 6 (by kernel_rfl) (by decide) ?_ ?_
     ·refine qbD 5 _ (by kernel_rfl) rfl (yB [iX 2, rX 0, uX c, .string p.marks, nX, oX] 115 1 fun cj Q bp ck bq ad => ?_); have cl := zn bp O; have br := zu O ad iZ; have bs := P.ch ad id; refine qaw (B := fun k => k = d) <| yH 6 (yT [iX 0, uX 0, uX 0, uX 0, iX 0, oX, nX, oX, iX 0] bs fun cm bt R => ?_); have ae := zu br R (fun i hi (h : i = d) => by omega); have af := bq.ch R (fun (h : Q = d) => by have := P.lt; omega); refine qo R iZ <| ydC [7] [] (fun u hu => .z) <| yDe (nS ?_); refine qd (yR2 [.agg #[iX 0, uX 0, uX 0, uX 0, iX 0, oX, nX, oX, iX 0], .slice (some ⟨Q, 0, none⟩) 1 1] (.a (bt.cs 0 9) .z) ?_); refine Fed.mk' (p' := (PS.mk 0 ⟨0, 0, 0, 0⟩ ByteArray.empty [] ByteArray.empty 0)) (l := [Ac.mk 2 0 c p.marks [] ByteArray.empty]) none 0 0 (some Q) 1 1 (.inr (fun b h => by cases h)) rfl (IntsAt.nil _ _ _) (ActsAt.one af ⟨by have := zs ae; omega, af.lt⟩ ⟨none, 0, 0, rfl, IntsAt.nil _ _ _⟩) (Up.ch ae) ?_; simp only [qt, atP, g, f, j, r, x, y, A, ↓reduceIte, Int.reduceEq, Int.reduceLE, Int.reduceLT, reduceCtorEq, sA, ne_eq]
     refine qav 6 _ (by kernel_rfl) rfl (yT [iX 0, uX 0, uX 0, uX 0, iX 0, oX, nX, oX, iX 0] P fun cn bu ag => ?_); have ah := zu O ag (fun i hi (h : i = d) => by omega); refine qo ag iZ <| yK 5 (yB [iX 2, rX 0, uX c, .string p.marks, nX, oX] 115 1 fun co ai bv cp aj ak => ?_); have cq := zn bv ah; have al := zu ah ak iZ; have bw := bu.ch ak id; refine q9 <| yd [7] [] .z <| yDe (nS ?_); refine qd (yR2 [.agg #[iX 0, uX 0, uX 0, uX 0, iX 0, oX, nX, oX, iX 0], .slice (some ⟨ai, 0, none⟩) 1 1] (.a (bw.cs 0 9) .z) ?_); refine Fed.mk' (p' := (PS.mk 0 ⟨0, 0, 0, 0⟩ ByteArray.empty [] ByteArray.empty 0)) (l := [Ac.mk 2 0 c p.marks [] ByteArray.empty]) none 0 0 (some ai) 1 1 (.inr (fun b h => by cases h)) rfl (IntsAt.nil _ _ _) (ActsAt.one aj ⟨by have := zs al; omega, aj.lt⟩ ⟨none, 0, 0, rfl, IntsAt.nil _ _ _⟩) (Up.ch al) ?_; simp only [qt, atP, g, f, j, r, x, y, A, ↓reduceIte, Int.reduceEq, Int.reduceLE, Int.reduceLT, reduceCtorEq, sA, ne_eq]
    refine qbD 5 _ (by kernel_rfl) rfl (yB [iX 2, rX 0, uX c, .string p.marks, nX, oX] 115 1 fun cr S bx ct bz am => ?_); have cu := zn bx L; have bA := zu L am iZ; have bB := M.ch am id; refine qaw (B := fun k => k = d) <| yH 0 (yQ (qa9 0 _) fun cv D => ?_); have bC := zu bA D iZ; have bD := bB.ch D id; have bE := bz.ch D id; refine qo D eZ <| yH 6 (yT [iX 0, uX 0, uX 0, uX 0, iX 0, oX, nX, oX, iX 0] bD fun cw bF T => ?_); have an := zu bC T (fun i hi (h : i = d) => by omega); have ao := bE.ch T (fun (h : S = d) => by have := M.lt; omega); refine qo T iZ <| ydC [7] [] (fun u hu => .z) <| yDe (nS ?_); refine qd (yR2 [.agg #[iX 0, uX 0, uX 0, uX 0, iX 0, oX, nX, oX, iX 0], .slice (some ⟨S, 0, none⟩) 1 1] (.a (bF.cs 0 9) .z) ?_); refine Fed.mk' (p' := (PS.mk 0 ⟨0, 0, 0, 0⟩ ByteArray.empty [] ByteArray.empty 0)) (l := [Ac.mk 2 0 c p.marks [] ByteArray.empty]) none 0 0 (some S) 1 1 (.inr (fun b h => by cases h)) rfl (IntsAt.nil _ _ _) (ActsAt.one ao ⟨by have := zs an; omega, ao.lt⟩ ⟨none, 0, 0, rfl, IntsAt.nil _ _ _⟩) (Up.ch an) ?_; simp only [qt, atP, g, f, j, r, x, y, A, ↓reduceIte, Int.reduceEq, Int.reduceLE, Int.reduceLT, reduceCtorEq, sA, ne_eq]
   exfalso; omega
  exfalso; omega
 refine yz 8 <| ycf <| ysr <| yp 4 [] (.l (o.c 0) .z) <| yw [35] (rE p.state 1) (fun j => ?_) fun j => ?_
 ·exfalso; omega
 refine yz 8 <| ycf <| ysr <| yp 4 [] (.l (o.c 0) .z) <| yw [44] (rE p.state 1) (fun r => ?_) fun r => ?_
 ·exfalso; omega
 refine yz 8 <| ycf <| qp (nB (nS ?_)); refine ys <| qY (· = d) [5] (by kernel_rfl) (fun cx cy U => ?_); have V := zu s U iZ; have bG := o.ch U id; have W := t.ch U id; refine ydC (uL 1 4) [] (fun u hu => (.l (qg hu (bG.c 5) (fun (h : m = d) => by have := v.lt; omega)) .z)) <| qbl 0 5 (by kernel_rfl) (by decide) ?_ ?_
 ·refine qav 0 _ (by kernel_rfl) rfl (yQ (qa9 0 _) fun cz X => ?_); have Y := zu V X iZ; have Z := W.ch X id; refine qo X eZ <| qbl 5 6 (by kernel_rfl) (by decide) ?_ ?_
  ·refine qbD 5 _ (by kernel_rfl) rfl (yB [iX 2, rX 0, uX c, .string p.marks, nX, oX] 115 1 fun cA a0 bH cB bI ap => ?_); have cC := zn bH Y; have bJ := zu Y ap iZ; have bK := Z.ch ap id; refine qaw (B := fun k => k = d) <| yH 6 (yT [iX 0, uX 0, uX 0, uX 0, iX 0, oX, nX, oX, iX 0] bK fun cD bL a1 => ?_); have aq := zu bJ a1 (fun i hi (h : i = d) => by omega); have ar := bI.ch a1 (fun (h : a0 = d) => by have := Z.lt; omega); refine qo a1 iZ <| ydC [7] [] (fun u hu => .z) <| yDe (nS ?_); refine qd (yR2 [.agg #[iX 0, uX 0, uX 0, uX 0, iX 0, oX, nX, oX, iX 0], .slice (some ⟨a0, 0, none⟩) 1 1] (.a (bL.cs 0 9) .z) ?_); refine Fed.mk' (p' := (PS.mk 0 ⟨0, 0, 0, 0⟩ ByteArray.empty [] ByteArray.empty 0)) (l := [Ac.mk 2 0 c p.marks [] ByteArray.empty]) none 0 0 (some a0) 1 1 (.inr (fun b h => by cases h)) rfl (IntsAt.nil _ _ _) (ActsAt.one ar ⟨by have := zs aq; omega, ar.lt⟩ ⟨none, 0, 0, rfl, IntsAt.nil _ _ _⟩) (Up.ch aq) ?_; simp only [qt, atP, g, f, j, r, ↓reduceIte, Int.reduceEq, Int.reduceLE, Int.reduceLT, reduceCtorEq, sA, ne_eq]
  refine qav 6 _ (by kernel_rfl) rfl (yT [iX 0, uX 0, uX 0, uX 0, iX 0, oX, nX, oX, iX 0] Z fun cE bM au => ?_); have av := zu Y au (fun i hi (h : i = d) => by omega); refine qo au iZ <| yK 5 (yB [iX 2, rX 0, uX c, .string p.marks, nX, oX] 115 1 fun cF aw bN cG ax ay => ?_); have cH := zn bN av; have az := zu av ay iZ; have bO := bM.ch ay id; refine q9 <| yd [7] [] .z <| yDe (nS ?_); refine qd (yR2 [.agg #[iX 0, uX 0, uX 0, uX 0, iX 0, oX, nX, oX, iX 0], .slice (some ⟨aw, 0, none⟩) 1 1] (.a (bO.cs 0 9) .z) ?_); refine Fed.mk' (p' := (PS.mk 0 ⟨0, 0, 0, 0⟩ ByteArray.empty [] ByteArray.empty 0)) (l := [Ac.mk 2 0 c p.marks [] ByteArray.empty]) none 0 0 (some aw) 1 1 (.inr (fun b h => by cases h)) rfl (IntsAt.nil _ _ _) (ActsAt.one ax ⟨by have := zs az; omega, ax.lt⟩ ⟨none, 0, 0, rfl, IntsAt.nil _ _ _⟩) (Up.ch az) ?_; simp only [qt, atP, g, f, j, r, ↓reduceIte, Int.reduceEq, Int.reduceLE, Int.reduceLT, reduceCtorEq, sA, ne_eq]
 refine qbD 5 _ (by kernel_rfl) rfl (yB [iX 2, rX 0, uX c, .string p.marks, nX, oX] 115 1 fun cI a2 bP cJ bQ aA => ?_); have cK := zn bP V; have bR := zu V aA iZ; have bS := W.ch aA id; refine qaw (B := fun k => k = d) <| yH 0 (yQ (qa9 0 _) fun cL E => ?_); have bT := zu bR E iZ; have bU := bS.ch E id; have bV := bQ.ch E id; refine qo E eZ <| yH 6 (yT [iX 0, uX 0, uX 0, uX 0, iX 0, oX, nX, oX, iX 0] bU fun cM bW a3 => ?_); have aB := zu bT a3 (fun i hi (h : i = d) => by omega); have aC := bV.ch a3 (fun (h : a2 = d) => by have := W.lt; omega); refine qo a3 iZ <| ydC [7] [] (fun u hu => .z) <| yDe (nS ?_); refine qd (yR2 [.agg #[iX 0, uX 0, uX 0, uX 0, iX 0, oX, nX, oX, iX 0], .slice (some ⟨a2, 0, none⟩) 1 1] (.a (bW.cs 0 9) .z) ?_); refine Fed.mk' (p' := (PS.mk 0 ⟨0, 0, 0, 0⟩ ByteArray.empty [] ByteArray.empty 0)) (l := [Ac.mk 2 0 c p.marks [] ByteArray.empty]) none 0 0 (some a2) 1 1 (.inr (fun b h => by cases h)) rfl (IntsAt.nil _ _ _) (ActsAt.one aC ⟨by have := zs aB; omega, aC.lt⟩ ⟨none, 0, 0, rfl, IntsAt.nil _ _ _⟩) (Up.ch aB) ?_; simp only [qt, atP, g, f, j, r, ↓reduceIte, Int.reduceEq, Int.reduceLE, Int.reduceLT, reduceCtorEq, sA, ne_eq]
set_option maxHeartbeats 4000000 in
theorem qhz {w : World} {po : Option Nat} {pn pc : Nat} {p : PS} (hP : IntsAt w .i64 po pn pc p.params (fun b => po = some b)) (hn : pn ≤ 100) : Calls Tryz.prog 94 [.agg #[iX p.state, uX p.utf.b0, uX p.utf.b1, uX p.utf.b2, iX p.utf.n, .string p.marks, .slice (po.map at0) pn pc, .string p.text, iX p.within]].toArray w fun e w' => ∃ b n c, e = .returned (.slice (some ⟨b, 0, none⟩) n c) ∧ Own w' tInt 1 (some b) n c ((qaI p.params).map (Value.int .i64)) ∧ w.heap.size ≤ b ∧ Ch (fun _ => False) w w' := by
 have C := hP.2.1; refine yA Tryz.func94 rfl <| ysr <| yo (yN [iX p.state, uX p.utf.b0, uX p.utf.b1, uX p.utf.b2, iX p.utf.n, .string p.marks, .slice (po.map at0) pn pc, .string p.text, iX p.within] 55 fun D r s E f j => ?_); have F := zn s (zm w); have a := zu (zm w) j iZ; have g := hP.ch j iZ; refine yz 2 <| ys <| ysr <| yp 4 [] (.l (f.c 6) .z) <| ye <| yc (rE ((pn : Nat) : Int) 0) (fun t => ?_) fun t => ?_
 ·refine ysr <| yo (yB [iX 0] 3 1 fun G k u H v x => ?_); have I := zn u a; have y := zu a x iZ; refine yz 2 <| qd (rS (yR1 (.slice (some ⟨k, 0, none⟩) 1 1) ?_)); refine ⟨k, 1, 1, rfl, ?_, by omega, Up.ch y⟩; rw [show qaI p.params = [0] from if_pos (by omega)]; exact Own.blk v rfl (by decide)
 refine yk <| ysr <| yp 2 [] (.l (f.c 6) .z) ?_; refine yo (qaf 3 1 8 none 0 0 [] (po.map at0) pn pc (p.params.map (Value.int .i64)) (some 10) pn (Nat.zero_add _) (p.params.map (Value.int .i64)) rfl (by kernel_rfl) (Own.nil _ _ _) g.1 (by rw [List.length_map, g.2.1, Nat.mul_one]) (qcV _) (fun h => g.2.2.1 (by cases po <;> simp_all)) (by constructor <;> first | omega | (simp only [maxLen]; omega)) ?_); intro J d m o q K i; replace i := qC i; have A : ∀ b, d = some b → w.heap.size ≤ b := fun b e => by
  rcases q with h | ⟨g', h, h'⟩
  ·rw [h] at e; cases e
  rw [h] at e; have := zi e; have := zs a; omega
 have B := zu a i iZ; have L : ¬ d = some r := fun e => by
  rcases q with h | ⟨g', h, h'⟩
  ·rw [h] at e; cases e
  rw [h] at e; have := zi e; have := f.lt; omega
 refine yz 4 <| qd (yR1 (.slice (d.map at0) pn m) ?_); have M : 0 < pn := by omega
 cases d with
 | none => exact absurd (o.2.2.2.1 rfl).1 (by omega)
 | some b =>
  refine ⟨b, pn, m, rfl, ?_, A b rfl, Up.ch B⟩; rw [show qaI p.params = p.params from if_neg (by omega)]; exact o
set_option maxHeartbeats 4000000 in
theorem qki {w : World} {po : Option Nat} {pn pc : Nat} {p : PS} (hP : IntsAt w .i64 po pn pc p.params (fun b => po = some b)) (c : Int) (ht : p.text.size ≤ 1000) : Calls Tryz.prog 76 [.agg #[iX p.state, uX p.utf.b0, uX p.utf.b1, uX p.utf.b2, iX p.utf.n, .string p.marks, .slice (po.map at0) pn pc, .string p.text, iX p.within], uX c].toArray w fun e w' => Fed w w' e po (qJ p c).1 (qJ p c).2 := by
 refine yA Tryz.func76 rfl <| ysr <| yo (yN [iX p.state, uX p.utf.b0, uX p.utf.b1, uX p.utf.b2, iX p.utf.n, .string p.marks, .slice (po.map at0) pn pc, .string p.text, iX p.within] 55 fun aW g a0 aX y K => ?_); have C := zn a0 (zm w); have L := zu (zm w) K iZ; have a1 := hP.ch K iZ; refine yo (yN [iX 0, uX 0, uX 0, uX 0, iX 0, oX, nX, oX, iX 0] 55 fun M d a2 aY m D => ?_); have u := zn a2 L; have j := zu L D iZ; have v := a1.ch D iZ; have f := y.ch D id; refine yz 3 <| ys <| q8 <| yx 3 <| yc (rE c 27) (fun o => ?_) fun o => ?_
 ·refine q7 <| yp 3 [] (.l (f.c 0) .z) <| yo (yT [iX p.state, uX p.utf.b0, uX p.utf.b1, uX p.utf.b2, iX p.utf.n, .string p.marks, .slice (po.map at0) pn pc, .string p.text, iX p.state] f fun aZ a3 E => ?_); have a4 := zu j E (fun i hi (h : i = g) => by omega); have a5 := v.ch E (fun b hb (e : b = g) => by have := (hP.2.2.2 b hb).2; have := C; omega); have a6 := m.ch E (fun (h : d = g) => by have := y.lt; omega); refine yq 5 <| yo (yT [iX 7, uX p.utf.b0, uX p.utf.b1, uX p.utf.b2, iX p.utf.n, .string p.marks, .slice (po.map at0) pn pc, .string p.text, iX p.state] a3 fun b3 a7 F => ?_); have a8 := zu a4 F (fun i hi (h : i = g) => by omega); have a9 := a5.ch F (fun b hb (e : b = g) => by have := (hP.2.2.2 b hb).2; have := C; omega); have aa := a6.ch F (fun (h : d = g) => by have := y.lt; omega); refine yE (nB (nS ?_)); refine ysr <| yp 1 [] (.a (a7.cs 0 9) .z) <| yo (yT [iX 7, uX p.utf.b0, uX p.utf.b1, uX p.utf.b2, iX p.utf.n, .string p.marks, .slice (po.map at0) pn pc, .string p.text, iX p.state] aa fun b4 ab N => ?_); have ac := zu a8 N (fun i hi (h : i = d) => by omega); have ad := a9.ch N (fun b hb (e : b = d) => by have := (hP.2.2.2 b hb).2; have := u; omega); refine yz 3 <| qd (yR2 [.agg #[iX 7, uX p.utf.b0, uX p.utf.b1, uX p.utf.b2, iX p.utf.n, .string p.marks, .slice (po.map at0) pn pc, .string p.text, iX p.state], nX] (.a (ab.cs 0 9) .z) ?_); refine Fed.mk' (p' := (PS.mk 7 ⟨p.utf.b0, p.utf.b1, p.utf.b2, p.utf.n⟩ p.marks p.params p.text p.state)) (l := []) po pn pc none 0 0 (.inl ⟨rfl, rfl, rfl, rfl⟩) rfl (ad.old) (ActsAt.nil _ _) (Up.ch ac) ?_
  simp only [qJ, atP, o, ↓reduceIte, Int.reduceEq, Int.reduceLE, Int.reduceLT, reduceCtorEq, sA, ne_eq]
 refine ysr <| yq 3 <| yw [16] (rE c 7) (fun r => ?_) fun r => ?_
 ·refine yp 8 [] (.l (f.c 0) .z) <| ye <| yc (rE p.state 5) (fun k => ?_) fun k => ?_
  ·refine ysr <| yp 1 [] (.a (f.cs 0 9) .z) <| yo (yC (qfH v 5 ) ?_); rintro _ O ⟨G, H, I, P, Q, R, rfl, ae, af, S⟩; refine ⟨_, rfl, ?_⟩; have b5 : g < M.heap.size := f.lt; have T : d < M.heap.size := m.lt; have ag := zu j S iZ; have ah := m.ch S id; have ai : O.heap.size ≤ O.heap.size := Nat.le_refl _; refine yq 4 <| yo (yT [iX (qv p 5).1.state, uX (qv p 5).1.utf.b0, uX (qv p 5).1.utf.b1, uX (qv p 5).1.utf.b2, iX (qv p 5).1.utf.n, .string (qv p 5).1.marks, .slice (G.map at0) H I, .string (qv p 5).1.text, iX (qv p 5).1.within] ah fun b6 aj A => ?_); have ak := zu ag A (fun i hi (h : i = d) => by omega); have al := ae.ch A (fun b hb (e : b = d) => hb.elim (fun hb => by have := (hP.2.2.2 b hb).2; have := u; omega) (fun hb => by have := T; omega)); have am := af.ch A (fun b hb (e : b = d) => by have := T; omega); have b7 := Nat.le_trans ai (zs A); refine yz 6 <| qd (rB (rS (yR2 [.agg #[iX (qv p 5).1.state, uX (qv p 5).1.utf.b0, uX (qv p 5).1.utf.b1, uX (qv p 5).1.utf.b2, iX (qv p 5).1.utf.n, .string (qv p 5).1.marks, .slice (G.map at0) H I, .string (qv p 5).1.text, iX (qv p 5).1.within], .slice (P.map at0) Q R] (.a (aj.cs 0 9) .z) ?_))); have b8 := zs j; refine Fed.mk2 (p' := (qv p 5).1) (l := (qv p 5).2) G H I P Q R rfl (al.mono fun b hb => hb.imp id fun h => ⟨by omega, by omega⟩) (am.mono fun b h => ⟨⟨by omega, by omega⟩, h.2⟩) (Up.ch ak) ?_; simp only [qJ, atP, o, r, k, ↓reduceIte, Int.reduceEq, Int.reduceLE, Int.reduceLT, reduceCtorEq, sA, ne_eq]
  refine ysr <| yq 3 <| yw [28] (rE c 24) (fun s => ?_) fun s => ?_
  ·exfalso; omega
  refine yz 7 <| yc (rE c 26) (fun t => ?_) fun t => ?_
  ·exfalso; omega
  refine ysr <| yq 3 <| yw [36] (rM 32 c) (fun x => ?_) fun x => ?_
  ·exfalso; omega
  refine yz 9 <| ycf <| qp (nB (nS ?_)); refine ysr <| yp 1 [] (.a (f.cs 0 9) .z) <| yo (yT [iX p.state, uX p.utf.b0, uX p.utf.b1, uX p.utf.b2, iX p.utf.n, .string p.marks, .slice (po.map at0) pn pc, .string p.text, iX p.within] m fun b9 an U => ?_); have ao := zu j U (fun i hi (h : i = d) => by omega); have ap := v.ch U (fun b hb (e : b = d) => by have := (hP.2.2.2 b hb).2; have := u; omega); refine yz 3 <| qd (yR2 [.agg #[iX p.state, uX p.utf.b0, uX p.utf.b1, uX p.utf.b2, iX p.utf.n, .string p.marks, .slice (po.map at0) pn pc, .string p.text, iX p.within], nX] (.a (an.cs 0 9) .z) ?_); refine Fed.mk' (p' := (PS.mk p.state ⟨p.utf.b0, p.utf.b1, p.utf.b2, p.utf.n⟩ p.marks p.params p.text p.within)) (l := []) po pn pc none 0 0 (.inl ⟨rfl, rfl, rfl, rfl⟩) rfl (ap.old) (ActsAt.nil _ _) (Up.ch ao) ?_; simp only [qJ, atP, o, r, k, s, t, x, ↓reduceIte, Int.reduceEq, Int.reduceLE, Int.reduceLT, reduceCtorEq, sA, ne_eq]
 refine yz 8 <| ycf <| ysr <| yq 3 <| yw [28] (rE c 24) (fun k => ?_) fun k => ?_
 ·refine yz 7 <| yct <| ysr <| yo (yQ (qa9 0 _) fun ba V => ?_); have aq := zu j V iZ; have ar := m.ch V id; refine yo (yT [iX 0, uX 0, uX 0, uX 0, iX 0, oX, nX, oX, iX 0] ar fun bb au av => ?_); have aw := zu aq av (fun i hi (h : i = d) => by omega); refine yz 3 <| qd (rB (rS (yR2 [.agg #[iX 0, uX 0, uX 0, uX 0, iX 0, oX, nX, oX, iX 0], nX] (.a (au.cs 0 9) .z) ?_))); refine Fed.mk' (p' := (PS.mk 0 ⟨0, 0, 0, 0⟩ ByteArray.empty [] ByteArray.empty 0)) (l := []) none 0 0 none 0 0 (.inl ⟨rfl, rfl, rfl, rfl⟩) rfl (IntsAt.nil _ _ _) (ActsAt.nil _ _) (Up.ch aw) ?_; simp only [qJ, atP, o, r, k, ↓reduceIte, Int.reduceEq, Int.reduceLE, Int.reduceLT, reduceCtorEq, sA, ne_eq]
 refine yz 7 <| yc (rE c 26) (fun s => ?_) fun s => ?_
 ·refine ysr <| yo (yQ (qa9 0 _) fun bc W => ?_); have ax := zu j W iZ; have ay := m.ch W id; refine yo (yT [iX 0, uX 0, uX 0, uX 0, iX 0, oX, nX, oX, iX 0] ay fun bd az aA => ?_); have aB := zu ax aA (fun i hi (h : i = d) => by omega); refine yz 3 <| qd (rB (rS (yR2 [.agg #[iX 0, uX 0, uX 0, uX 0, iX 0, oX, nX, oX, iX 0], nX] (.a (az.cs 0 9) .z) ?_))); refine Fed.mk' (p' := (PS.mk 0 ⟨0, 0, 0, 0⟩ ByteArray.empty [] ByteArray.empty 0)) (l := []) none 0 0 none 0 0 (.inl ⟨rfl, rfl, rfl, rfl⟩) rfl (IntsAt.nil _ _ _) (ActsAt.nil _ _) (Up.ch aB) ?_; simp only [qJ, atP, o, r, k, s, ↓reduceIte, Int.reduceEq, Int.reduceLE, Int.reduceLT, reduceCtorEq, sA, ne_eq]
 refine ysr <| yq 3 <| yw [36] (rM 32 c) (fun t => ?_) fun t => ?_
 ·refine yp 9 [] (.l (f.c 7) .z) <| ye <| yc (rL ((p.text).size : Int) 40) (fun x => ?_) fun x => ?_
  ·refine q7 <| yp 3 [] (.l (f.c 7) .z) <| yo (yB [uX c] 5 1 fun bf aC aD bg aE B => ?_); have bh := zn aD j; have aF := zu j B iZ; have aG := v.ch B iZ; have aH := f.ch B id; have aI := m.ch B id; refine yo (qbQ (some ⟨aC, 0, none⟩) 1 1 [c] (some 46) (by kernel_rfl) (Rd.all aE) rfl ?_); refine yp 7 [] (.p (q := (p.text).size + ((qq [c])).size ≤ 9223372036854775807) (by simp only [qax]; omega) .z) <| yo (yT [iX p.state, uX p.utf.b0, uX p.utf.b1, uX p.utf.b2, iX p.utf.n, .string p.marks, .slice (po.map at0) pn pc, .string (p.text ++ (qq [c])), iX p.within] aH fun bi aJ J => ?_); have aK := zu aF J (fun i hi (h : i = g) => by omega); have aL := aG.ch J (fun b hb (e : b = g) => by have := (hP.2.2.2 b hb).2; have := C; omega); have aM := aI.ch J (fun (h : d = g) => by have := y.lt; omega); refine yE (nB (nS ?_)); refine ysr <| yp 1 [] (.a (aJ.cs 0 9) .z) <| yo (yT [iX p.state, uX p.utf.b0, uX p.utf.b1, uX p.utf.b2, iX p.utf.n, .string p.marks, .slice (po.map at0) pn pc, .string (p.text ++ (qq [c])), iX p.within] aM fun bj aN X => ?_); have aO := zu aK X (fun i hi (h : i = d) => by omega); have aP := aL.ch X (fun b hb (e : b = d) => by have := (hP.2.2.2 b hb).2; have := u; omega); refine yz 3 <| qd (yR2 [.agg #[iX p.state, uX p.utf.b0, uX p.utf.b1, uX p.utf.b2, iX p.utf.n, .string p.marks, .slice (po.map at0) pn pc, .string (p.text ++ (qq [c])), iX p.within], nX] (.a (aN.cs 0 9) .z) ?_); refine Fed.mk' (p' := (PS.mk p.state ⟨p.utf.b0, p.utf.b1, p.utf.b2, p.utf.n⟩ p.marks p.params (p.text ++ (qq [c])) p.within)) (l := []) po pn pc none 0 0 (.inl ⟨rfl, rfl, rfl, rfl⟩) rfl (aP.old) (ActsAt.nil _ _) (Up.ch aO) ?_
   simp only [qJ, atP, o, r, k, s, t, x, ↓reduceIte, Int.reduceEq, Int.reduceLE, Int.reduceLT, reduceCtorEq, sA, ne_eq]
  refine qp (nB (nS ?_)); refine ysr <| yp 1 [] (.a (f.cs 0 9) .z) <| yo (yT [iX p.state, uX p.utf.b0, uX p.utf.b1, uX p.utf.b2, iX p.utf.n, .string p.marks, .slice (po.map at0) pn pc, .string p.text, iX p.within] m fun bk aQ Y => ?_); have aR := zu j Y (fun i hi (h : i = d) => by omega); have aS := v.ch Y (fun b hb (e : b = d) => by have := (hP.2.2.2 b hb).2; have := u; omega); refine yz 3 <| qd (yR2 [.agg #[iX p.state, uX p.utf.b0, uX p.utf.b1, uX p.utf.b2, iX p.utf.n, .string p.marks, .slice (po.map at0) pn pc, .string p.text, iX p.within], nX] (.a (aQ.cs 0 9) .z) ?_); refine Fed.mk' (p' := (PS.mk p.state ⟨p.utf.b0, p.utf.b1, p.utf.b2, p.utf.n⟩ p.marks p.params p.text p.within)) (l := []) po pn pc none 0 0 (.inl ⟨rfl, rfl, rfl, rfl⟩) rfl (aS.old) (ActsAt.nil _ _) (Up.ch aR) ?_; simp only [qJ, atP, o, r, k, s, t, x, ↓reduceIte, Int.reduceEq, Int.reduceLE, Int.reduceLT, reduceCtorEq, sA, ne_eq]
 refine yz 9 <| ycf <| qp (nB (nS ?_)); refine ysr <| yp 1 [] (.a (f.cs 0 9) .z) <| yo (yT [iX p.state, uX p.utf.b0, uX p.utf.b1, uX p.utf.b2, iX p.utf.n, .string p.marks, .slice (po.map at0) pn pc, .string p.text, iX p.within] m fun bl aT Z => ?_); have aU := zu j Z (fun i hi (h : i = d) => by omega); have aV := v.ch Z (fun b hb (e : b = d) => by have := (hP.2.2.2 b hb).2; have := u; omega); refine yz 3 <| qd (yR2 [.agg #[iX p.state, uX p.utf.b0, uX p.utf.b1, uX p.utf.b2, iX p.utf.n, .string p.marks, .slice (po.map at0) pn pc, .string p.text, iX p.within], nX] (.a (aT.cs 0 9) .z) ?_); refine Fed.mk' (p' := (PS.mk p.state ⟨p.utf.b0, p.utf.b1, p.utf.b2, p.utf.n⟩ p.marks p.params p.text p.within)) (l := []) po pn pc none 0 0 (.inl ⟨rfl, rfl, rfl, rfl⟩) rfl (aV.old) (ActsAt.nil _ _) (Up.ch aU) ?_; simp only [qJ, atP, o, r, k, s, t, ↓reduceIte, Int.reduceEq, Int.reduceLE, Int.reduceLT, reduceCtorEq, sA, ne_eq]
set_option maxHeartbeats 4000000 in
theorem qlR {w : World} {po : Option Nat} {pn pc : Nat} {p : PS} (hP : IntsAt w .i64 po pn pc p.params (fun b => po = some b)) (c : Int) (hc8 : 0 ≤ c ∧ c ≤ 255) (ht : p.marks.size ≤ 1000) (hn : pn ≤ 8) (hpb : ∀ x ∈ p.params, 0 ≤ x ∧ x ≤ 9999) : Calls Tryz.prog 77 [.agg #[iX p.state, uX p.utf.b0, uX p.utf.b1, uX p.utf.b2, iX p.utf.n, .string p.marks, .slice (po.map at0) pn pc, .string p.text, iX p.within], uX c].toArray w fun e w' => Fed w w' e po (qb8 p c).1 (qb8 p c).2 := by
 have cX := hP.2.1; have cY := qjm hpb; refine yA Tryz.func77 rfl <| ysr <| yo (yN [iX p.state, uX p.utf.b0, uX p.utf.b1, uX p.utf.b2, iX p.utf.n, .string p.marks, .slice (po.map at0) pn pc, .string p.text, iX p.within] 55 fun cZ f b4 d0 C ap => ?_); have J := zn b4 (zm w); have aq := zu (zm w) ap iZ; have b5 := hP.ch ap iZ; refine yo (yN [iX 0, uX 0, uX 0, uX 0, iX 0, oX, nX, oX, iX 0] 55 fun d1 d b6 d2 D Y => ?_); have K := zn b6 aq; have r := zu aq Y iZ; have G := b5.ch Y iZ; have g := C.ch Y id; refine yz 3 <| ys <| q8 <| ysr <| yq 3 <| yw [18] (rM 48 c) (fun v => ?_) fun v => ?_
 ·refine yz 7 <| yc (rM c 57) (fun m => ?_) fun m => ?_
  ·refine ysr <| yp 1 [] (.a (g.cs 0 9) .z) <| yo (yC (qhz G (by omega)) ?_); rintro _ d3 ⟨F, s, P, rfl, Q, b7, Z⟩; refine ⟨_, rfl, ?_⟩; have d4 : w.heap.size ≤ F := Nat.le_trans (zs r) b7; have ar : Df f F := (show ¬ f = F by have := g.lt; omega)
   have au : Df d F := (show ¬ d = F by have := D.lt; omega)
   have b8 := zu r Z iZ; have b9 := g.ch Z id; have ba := D.ch Z id; have bb : (qaI p.params).length = s := by have := Q.1; rw [List.length_map] at this; omega
   have d5 := qeN p.params; refine yz 3 <| ysr <| yp 17 [12] (.q6 (((s : Nat) : Int) - 1) (.q6 (((s : Nat) : Int) - 1) (.i (((s : Nat) : Int) - 1) (s) (.l (o := (0 + ((((s : Nat) : Int) - 1)).toNat * 1)) (qlQ Q (by omega)) (.q6 (10 * (qeO (qaI p.params))) (.p (q := InR .u8 (c - 48)) (in8 (by omega) (by omega)) (.q6 (c - 48) (.q6 ((10 * (qeO (qaI p.params))) + (c - 48)) (.i (((s : Nat) : Int) - 1) (s) .z))))))))) ?_; obtain ⟨d6, bc, bd⟩ := Q.2.2.2.2 _ rfl; refine yo (qa1 (0 + ((((s : Nat) : Int) - 1) : Int).toNat * 1) [iX (min (((10 * (qeO (qaI p.params))) + (c - 48)) : Int) 9999)] none (by kernel_rfl) bd (by simp only [List.length_append, List.length_map, List.length_cons, List.length_nil]; omega) ?_); intro d7 bf a0; have bg := qhy (x := (min (((10 * (qeO (qaI p.params))) + (c - 48)) : Int) 9999)) Q bc (by omega) bf; have bh := zu b8 a0 (fun i hi (h : i = F) => by omega); have bi := b9.ch a0 ar; have bj := ba.ch a0 au; refine ye <| q7 <| yq 2 <| yo (yT [iX p.state, uX p.utf.b0, uX p.utf.b1, uX p.utf.b2, iX p.utf.n, .string p.marks, .slice (some ⟨F, 0, none⟩) s P, .string p.text, iX p.within] bi fun d8 bk a1 => ?_); have bl := zu bh a1 (fun i hi (h : i = f) => by omega); have bm := bj.ch a1 (fun (h : d = f) => by have := C.lt; omega); have bn := bg.ch a1 (fun b e => by cases e; exact (fun h => ar h.symm)); refine yE (nB (nS ?_)); refine ysr <| yp 1 [] (.a (bk.cs 0 9) .z) <| yo (yT [iX p.state, uX p.utf.b0, uX p.utf.b1, uX p.utf.b2, iX p.utf.n, .string p.marks, .slice (some ⟨F, 0, none⟩) s P, .string p.text, iX p.within] bm fun d9 bo av => ?_)
   have aw := zu bl av (fun i hi (h : i = d) => by omega); have ax := bn.ch av (fun b e => by cases e; exact (fun h => au h.symm)); refine yz 3 <| qd (yR2 [.agg #[iX p.state, uX p.utf.b0, uX p.utf.b1, uX p.utf.b2, iX p.utf.n, .string p.marks, .slice (some ⟨F, 0, none⟩) s P, .string p.text, iX p.within], nX] (.a (bo.cs 0 9) .z) ?_); refine Fed.mk' (p' := (PS.mk p.state ⟨p.utf.b0, p.utf.b1, p.utf.b2, p.utf.n⟩ p.marks (qdW (qaI p.params) (min (((10 * (qeO (qaI p.params))) + (c - 48)) : Int) 9999)) p.text p.within)) (l := []) (some F) s P none 0 0 (.inl ⟨rfl, rfl, rfl, rfl⟩) rfl ((qgu ax ⟨by have := zs aw; omega, ax.lt⟩).or) (ActsAt.nil _ _) (Up.ch aw) ?_; simp only [qb8, atP, v, m, bb, ↓reduceIte, Int.reduceEq, Int.reduceLE, Int.reduceLT, reduceCtorEq, sA, ne_eq]
  refine yx 3 <| yc (rE c 59) (fun t => ?_) fun t => ?_
  ·refine ysr <| yp 1 [] (.a (g.cs 0 9) .z) <| yo (yC (qhz G (by omega)) ?_); rintro _ da ⟨E, y, L, rfl, a2, bp, a3⟩; refine ⟨_, rfl, ?_⟩; have db : w.heap.size ≤ E := Nat.le_trans (zs r) bp; have a4 : Df f E := (show ¬ f = E by have := g.lt; omega)
   have a5 : Df d E := (show ¬ d = E by have := D.lt; omega)
   have a6 := zu r a3 iZ; have ay := g.ch a3 id; have az := D.ch a3 id; have aA : (qaI p.params).length = y := by have := a2.1; rw [List.length_map] at this; omega
   have dc := qeN p.params; refine yz 3 <| ys <| yx 3 <| yc (rL ((y : Nat) : Int) 8) (fun j => ?_) fun j => ?_
   ·refine q7 <| yq 1 <| yo (yB [iX 0] 3 1 fun dd bq br de bs R => ?_); have df := zn br a6; have aB := zu a6 R iZ; have aC := ay.ch R id; have aD := az.ch R id; have bt := a2.ch R (fun b e => by cases e; exact id); refine yo (qaf 3 1 8 (some E) y L ((qaI p.params).map (Value.int .i64)) (some ⟨bq, 0, none⟩) 1 1 [iX 0] (some 53) (y + 1) rfl (((qaI p.params) ++ [0]).map (Value.int .i64)) (by rw [List.map_append]; rfl) (by kernel_rfl) bt (Rd.all bs) rfl rfl (fun h => by cases h) (by constructor <;> first | omega | (simp only [maxLen]; omega)) ?_); intro dg bu S bv a7 bw M; obtain ⟨H, rfl⟩ : ∃ b, bu = some b := bw (by omega); replace M := qeG M; have bx : Df f H := qaE a7 (fun h => a4 (zi h).symm) aC.lt; have bz : Df d H := qaE a7 (fun h => a5 (zi h).symm) aD.lt; have dh : w.heap.size ≤ H := qhh a7 (by omega) (zs aB); have bA := zu aB M (fun i hi (h : i = E) => by omega); have bB := aC.ch M a4; have bC := aD.ch M a5; refine yz 4 <| q7 <| yq 2 <| yo (yT [iX p.state, uX p.utf.b0, uX p.utf.b1, uX p.utf.b2, iX p.utf.n, .string p.marks, .slice (some ⟨H, 0, none⟩) (y + 1) S, .string p.text, iX p.within] bB fun di bD a8 => ?_); have bE := zu bA a8 (fun i hi (h : i = f) => by omega); have bF := bC.ch a8 (fun (h : d = f) => by have := C.lt; omega); have bG := bv.ch a8 (fun b e => by cases e; exact (fun h => bx h.symm)); refine yE (nB (nS ?_)); refine ysr <| yp 1 [] (.a (bD.cs 0 9) .z) <| yo (yT [iX p.state, uX p.utf.b0, uX p.utf.b1, uX p.utf.b2, iX p.utf.n, .string p.marks, .slice (some ⟨H, 0, none⟩) (y + 1) S, .string p.text, iX p.within] bF fun dj bH aE => ?_)
    have aF := zu bE aE (fun i hi (h : i = d) => by omega); have aG := bG.ch aE (fun b e => by cases e; exact (fun h => bz h.symm)); refine yz 3 <| qd (yR2 [.agg #[iX p.state, uX p.utf.b0, uX p.utf.b1, uX p.utf.b2, iX p.utf.n, .string p.marks, .slice (some ⟨H, 0, none⟩) (y + 1) S, .string p.text, iX p.within], nX] (.a (bH.cs 0 9) .z) ?_); refine Fed.mk' (p' := (PS.mk p.state ⟨p.utf.b0, p.utf.b1, p.utf.b2, p.utf.n⟩ p.marks ((qaI p.params) ++ [0]) p.text p.within)) (l := []) (some H) (y + 1) S none 0 0 (.inl ⟨rfl, rfl, rfl, rfl⟩) rfl ((qgu aG ⟨by have := zs aF; omega, aG.lt⟩).or) (ActsAt.nil _ _) (Up.ch aF) ?_; simp only [qb8, atP, v, m, t, j, aA, ↓reduceIte, Int.reduceEq, Int.reduceLE, Int.reduceLT, reduceCtorEq, sA, ne_eq]
   refine yk <| q7 <| yq 2 <| yo (yT [iX p.state, uX p.utf.b0, uX p.utf.b1, uX p.utf.b2, iX p.utf.n, .string p.marks, .slice (some ⟨E, 0, none⟩) y L, .string p.text, iX p.within] ay fun dk bI a9 => ?_); have bJ := zu a6 a9 (fun i hi (h : i = f) => by omega); have bK := az.ch a9 (fun (h : d = f) => by have := C.lt; omega); have bL := a2.ch a9 (fun b e => by cases e; exact (fun h => a4 h.symm)); refine yE (nB (nS ?_)); refine ysr <| yp 1 [] (.a (bI.cs 0 9) .z) <| yo (yT [iX p.state, uX p.utf.b0, uX p.utf.b1, uX p.utf.b2, iX p.utf.n, .string p.marks, .slice (some ⟨E, 0, none⟩) y L, .string p.text, iX p.within] bK fun dl bM aH => ?_); have aI := zu bJ aH (fun i hi (h : i = d) => by omega); have aJ := bL.ch aH (fun b e => by cases e; exact (fun h => a5 h.symm)); refine yz 3 <| qd (yR2 [.agg #[iX p.state, uX p.utf.b0, uX p.utf.b1, uX p.utf.b2, iX p.utf.n, .string p.marks, .slice (some ⟨E, 0, none⟩) y L, .string p.text, iX p.within], nX] (.a (bM.cs 0 9) .z) ?_); refine Fed.mk' (p' := (PS.mk p.state ⟨p.utf.b0, p.utf.b1, p.utf.b2, p.utf.n⟩ p.marks (qaI p.params) p.text p.within)) (l := []) (some E) y L none 0 0 (.inl ⟨rfl, rfl, rfl, rfl⟩) rfl ((qgu aJ ⟨by have := zs aI; omega, aJ.lt⟩).or) (ActsAt.nil _ _) (Up.ch aI) ?_; simp only [qb8, atP, v, m, t, j, aA, ↓reduceIte, Int.reduceEq, Int.reduceLE, Int.reduceLT, reduceCtorEq, sA, ne_eq]
  refine yx 3 <| yc (rM 64 c) (fun j => ?_) fun j => ?_
  ·refine ys <| ysr <| yp 3 [] (.l (g.c 0) .z) <| ye <| yc (rE p.state 4) (fun A => ?_) fun A => ?_
   ·refine ysr <| yo (yQ (qa9 0 _) fun dm aK => ?_); have bN := zu r aK iZ; have bO := D.ch aK id; refine yo (yT [iX 0, uX 0, uX 0, uX 0, iX 0, oX, nX, oX, iX 0] bO fun dn bP bQ => ?_); have bR := zu bN bQ (fun i hi (h : i = d) => by omega); refine yz 3 <| qd (rS (rB (rS (yR2 [.agg #[iX 0, uX 0, uX 0, uX 0, iX 0, oX, nX, oX, iX 0], nX] (.a (bP.cs 0 9) .z) ?_)))); refine Fed.mk' (p' := (PS.mk 0 ⟨0, 0, 0, 0⟩ ByteArray.empty [] ByteArray.empty 0)) (l := []) none 0 0 none 0 0 (.inl ⟨rfl, rfl, rfl, rfl⟩) rfl (IntsAt.nil _ _ _) (ActsAt.nil _ _) (Up.ch bR) ?_; simp only [qb8, atP, v, m, t, j, A, ↓reduceIte, Int.reduceEq, Int.reduceLE, Int.reduceLT, reduceCtorEq, sA, ne_eq]
   refine yk <| ys <| qY (· = d) [8] (by kernel_rfl) (fun dp dq T => ?_); have bS := zu r T iZ; have bT := G.ch T iZ; have aa := g.ch T id; have bU := D.ch T id; refine ydC (uL 1 5) [] (fun u hu => (.l (qg hu (aa.c 5) (fun (h : f = d) => by have := C.lt; omega)) (.l (qg hu (aa.c 6) (fun (h : f = d) => by have := C.lt; omega)) .z))) <| yH 0 (yQ (qa9 0 _) fun dr N => ?_); have aL := zu bS N iZ; have ab := bT.ch N iZ; have bV := aa.ch N id; have aM := bU.ch N id; refine qo N eZ ?_; refine yH 6 (qaf 3 1 8 none 0 0 [] (po.map at0) pn pc (p.params.map (Value.int .i64)) (some 69) pn (Nat.zero_add _) (p.params.map (Value.int .i64)) rfl (by kernel_rfl) (Own.nil _ _ _) ab.1 (by rw [List.length_map, ab.2.1, Nat.mul_one]) (qcV _) (fun h => ab.2.2.1 (by cases po <;> simp_all)) (by constructor <;> first | omega | (simp only [maxLen]; omega)) ?_); intro ds I U aN ac dt O; replace O := qC O; have aO : ∀ b, I = some b → w.heap.size ≤ b := fun b e => by
    rcases ac with h | ⟨g', h, h'⟩
    ·rw [h] at e; cases e
    rw [h] at e; have := zi e; have := zs aL; omega
   have ad := zu aL O iZ; have ae := aM.ch O id; have du : ¬ I = some f := fun e => by
    rcases ac with h | ⟨g', h, h'⟩
    ·rw [h] at e; cases e
    rw [h] at e; have := zi e; have := bV.lt; omega
   have aP : ¬ I = some d := fun e => by
    rcases ac with h | ⟨g', h, h'⟩
    ·rw [h] at e; cases e
    rw [h] at e; have := zi e; have := aM.lt; omega
   refine qo O eZ <| ydC [7] [] (fun u hu => .z) <| qbl 8 9 (by kernel_rfl) (by decide) ?_ ?_
   ·refine qbD 8 _ (by kernel_rfl) rfl (yB [iX 3, rX 0, uX c, .string p.marks, .slice (I.map at0) pn U, oX] 115 1 fun dv af bW dw bX ag => ?_); have dx := zn bW ad; have bY := zu ad ag iZ; have bZ := ae.ch ag id; have c0 := aN.ch ag iZ; refine qaw (B := fun k => k = d) <| yH 9 (yT [iX 0, uX 0, uX 0, uX 0, iX 0, oX, nX, oX, iX 0] bZ fun dy c1 V => ?_); have aQ := zu bY V (fun i hi (h : i = d) => by omega); have c2 := c0.ch V (fun b e (h : b = d) => aP (h ▸ e)); have aR := bX.ch V (fun (h : af = d) => by have := ae.lt; omega); refine qo V iZ <| ydC [10] [] (fun u hu => .z) <| yDe (nS ?_); refine qd (rB (rS (yR2 [.agg #[iX 0, uX 0, uX 0, uX 0, iX 0, oX, nX, oX, iX 0], .slice (some ⟨af, 0, none⟩) 1 1] (.a (c1.cs 0 9) .z) ?_))); refine Fed.mk' (p' := (PS.mk 0 ⟨0, 0, 0, 0⟩ ByteArray.empty [] ByteArray.empty 0)) (l := [Ac.mk 3 0 c p.marks p.params ByteArray.empty]) none 0 0 (some af) 1 1 (.inr (fun b h => by cases h)) rfl (IntsAt.nil _ _ _) (ActsAt.one aR ⟨by have := zs aQ; omega, aR.lt⟩ ⟨I, pn, U, rfl, (qhx c2 (fun b e => aO b e))⟩) (Up.ch aQ) ?_; simp only [qb8, atP, v, m, t, j, A, ↓reduceIte, Int.reduceEq, Int.reduceLE, Int.reduceLT, reduceCtorEq, sA, ne_eq]
   refine qav 9 _ (by kernel_rfl) rfl (yT [iX 0, uX 0, uX 0, uX 0, iX 0, oX, nX, oX, iX 0] ae fun dz c3 ah => ?_); have aS := zu ad ah (fun i hi (h : i = d) => by omega); have c4 := aN.ch ah (fun b e (h : b = d) => aP (h ▸ e)); refine qo ah iZ <| yK 8 (yB [iX 3, rX 0, uX c, .string p.marks, .slice (I.map at0) pn U, oX] 115 1 fun dA aT c5 dB aU ai => ?_); have dC := zn c5 aS; have aV := zu aS ai iZ; have c6 := c4.ch ai iZ; have c7 := c3.ch ai id; refine q9 <| yd [10] [] .z <| yDe (nS ?_); refine qd (rB (rS (yR2 [.agg #[iX 0, uX 0, uX 0, uX 0, iX 0, oX, nX, oX, iX 0], .slice (some ⟨aT, 0, none⟩) 1 1] (.a (c7.cs 0 9) .z) ?_))); refine Fed.mk' (p' := (PS.mk 0 ⟨0, 0, 0, 0⟩ ByteArray.empty [] ByteArray.empty 0)) (l := [Ac.mk 3 0 c p.marks p.params ByteArray.empty]) none 0 0 (some aT) 1 1 (.inr (fun b h => by cases h)) rfl (IntsAt.nil _ _ _) (ActsAt.one aU ⟨by have := zs aV; omega, aU.lt⟩ ⟨I, pn, U, rfl, (qhx c6 (fun b e => aO b e))⟩) (Up.ch aV) ?_; simp only [qb8, atP, v, m, t, j, A, ↓reduceIte, Int.reduceEq, Int.reduceLE, Int.reduceLT, reduceCtorEq, sA, ne_eq]
  refine ysr <| yp 5 [] (.l (g.c 5) .z) <| yw [77] (rE ((p.marks).size : Int) 2) (fun A => ?_) fun A => ?_
  ·refine yz 9 <| yct <| q7 <| yq 1 <| yo (yT [iX 4, uX p.utf.b0, uX p.utf.b1, uX p.utf.b2, iX p.utf.n, .string p.marks, .slice (po.map at0) pn pc, .string p.text, iX p.within] g fun dD c8 aj => ?_); have c9 := zu r aj (fun i hi (h : i = f) => by omega); have ca := G.ch aj (fun b hb (e : b = f) => by have := (hP.2.2.2 b hb).2; have := J; omega); have cb := D.ch aj (fun (h : d = f) => by have := C.lt; omega); refine yE (nB (nS ?_)); refine ysr <| yp 1 [] (.a (c8.cs 0 9) .z) <| yo (yT [iX 4, uX p.utf.b0, uX p.utf.b1, uX p.utf.b2, iX p.utf.n, .string p.marks, .slice (po.map at0) pn pc, .string p.text, iX p.within] cb fun dE cc aW => ?_); have cd := zu c9 aW (fun i hi (h : i = d) => by omega); have ce := ca.ch aW (fun b hb (e : b = d) => by have := (hP.2.2.2 b hb).2; have := K; omega); refine yz 3 <| qd (yR2 [.agg #[iX 4, uX p.utf.b0, uX p.utf.b1, uX p.utf.b2, iX p.utf.n, .string p.marks, .slice (po.map at0) pn pc, .string p.text, iX p.within], nX] (.a (cc.cs 0 9) .z) ?_); refine Fed.mk' (p' := (PS.mk 4 ⟨p.utf.b0, p.utf.b1, p.utf.b2, p.utf.n⟩ p.marks p.params p.text p.within)) (l := []) po pn pc none 0 0 (.inl ⟨rfl, rfl, rfl, rfl⟩) rfl (ce.old) (ActsAt.nil _ _) (Up.ch cd) ?_; simp only [qb8, atP, v, m, t, j, A, ↓reduceIte, Int.reduceEq, Int.reduceLE, Int.reduceLT, reduceCtorEq, sA, ne_eq]
  refine yz 9 <| yc (rE c 58) (fun ak => ?_) fun ak => ?_
  ·refine q7 <| yq 1 <| yo (yT [iX 4, uX p.utf.b0, uX p.utf.b1, uX p.utf.b2, iX p.utf.n, .string p.marks, .slice (po.map at0) pn pc, .string p.text, iX p.within] g fun dF cf al => ?_); have cg := zu r al (fun i hi (h : i = f) => by omega); have ci := G.ch al (fun b hb (e : b = f) => by have := (hP.2.2.2 b hb).2; have := J; omega); have cj := D.ch al (fun (h : d = f) => by have := C.lt; omega); refine yE (nB (nS ?_)); refine ysr <| yp 1 [] (.a (cf.cs 0 9) .z) <| yo (yT [iX 4, uX p.utf.b0, uX p.utf.b1, uX p.utf.b2, iX p.utf.n, .string p.marks, .slice (po.map at0) pn pc, .string p.text, iX p.within] cj fun dG ck aX => ?_); have cl := zu cg aX (fun i hi (h : i = d) => by omega); have cm := ci.ch aX (fun b hb (e : b = d) => by have := (hP.2.2.2 b hb).2; have := K; omega); refine yz 3 <| qd (yR2 [.agg #[iX 4, uX p.utf.b0, uX p.utf.b1, uX p.utf.b2, iX p.utf.n, .string p.marks, .slice (po.map at0) pn pc, .string p.text, iX p.within], nX] (.a (ck.cs 0 9) .z) ?_); refine Fed.mk' (p' := (PS.mk 4 ⟨p.utf.b0, p.utf.b1, p.utf.b2, p.utf.n⟩ p.marks p.params p.text p.within)) (l := []) po pn pc none 0 0 (.inl ⟨rfl, rfl, rfl, rfl⟩) rfl (cm.old) (ActsAt.nil _ _) (Up.ch cl) ?_; simp only [qb8, atP, v, m, t, j, A, ak, ↓reduceIte, Int.reduceEq, Int.reduceLE, Int.reduceLT, reduceCtorEq, sA, ne_eq]
  refine q7 <| yp 3 [] (.l (g.c 5) .z) <| yo (yB [uX c] 5 1 fun dH cn co dI cp W => ?_); have dJ := zn co r; have cq := zu r W iZ; have cr := G.ch W iZ; have ct := g.ch W id; have cu := D.ch W id; refine yo (qbQ (some ⟨cn, 0, none⟩) 1 1 [c] (some 12) (by kernel_rfl) (Rd.all cp) rfl ?_); refine yp 7 [] (.p (q := (p.marks).size + ((qq [c])).size ≤ 9223372036854775807) (by simp only [qax]; omega) .z) <| yo (yT [iX p.state, uX p.utf.b0, uX p.utf.b1, uX p.utf.b2, iX p.utf.n, .string (p.marks ++ (qq [c])), .slice (po.map at0) pn pc, .string p.text, iX p.within] ct fun dK cv am => ?_); have cw := zu cq am (fun i hi (h : i = f) => by omega); have cx := cr.ch am (fun b hb (e : b = f) => by have := (hP.2.2.2 b hb).2; have := J; omega); have cy := cu.ch am (fun (h : d = f) => by have := C.lt; omega); refine yE (nB (nS ?_)); refine ysr <| yp 1 [] (.a (cv.cs 0 9) .z) <| yo (yT [iX p.state, uX p.utf.b0, uX p.utf.b1, uX p.utf.b2, iX p.utf.n, .string (p.marks ++ (qq [c])), .slice (po.map at0) pn pc, .string p.text, iX p.within] cy fun dL cz aY => ?_); have cA := zu cw aY (fun i hi (h : i = d) => by omega); have cB := cx.ch aY (fun b hb (e : b = d) => by have := (hP.2.2.2 b hb).2; have := K; omega); refine yz 3 <| qd (yR2 [.agg #[iX p.state, uX p.utf.b0, uX p.utf.b1, uX p.utf.b2, iX p.utf.n, .string (p.marks ++ (qq [c])), .slice (po.map at0) pn pc, .string p.text, iX p.within], nX] (.a (cz.cs 0 9) .z) ?_); refine Fed.mk' (p' := (PS.mk p.state ⟨p.utf.b0, p.utf.b1, p.utf.b2, p.utf.n⟩ (p.marks ++ (qq [c])) p.params p.text p.within)) (l := []) po pn pc none 0 0 (.inl ⟨rfl, rfl, rfl, rfl⟩) rfl (cB.old) (ActsAt.nil _ _) (Up.ch cA) ?_
  simp only [qb8, atP, v, m, t, j, A, ak, ↓reduceIte, Int.reduceEq, Int.reduceLE, Int.reduceLT, reduceCtorEq, sA, ne_eq]
 refine yz 7 <| ycf <| yx 3 <| yc (rE c 59) (fun m => ?_) fun m => ?_
 ·exfalso; omega
 refine yx 3 <| yc (rM 64 c) (fun t => ?_) fun t => ?_
 ·exfalso; omega
 refine ysr <| yp 5 [] (.l (g.c 5) .z) <| yw [77] (rE ((p.marks).size : Int) 2) (fun j => ?_) fun j => ?_
 ·refine yz 9 <| yct <| q7 <| yq 1 <| yo (yT [iX 4, uX p.utf.b0, uX p.utf.b1, uX p.utf.b2, iX p.utf.n, .string p.marks, .slice (po.map at0) pn pc, .string p.text, iX p.within] g fun dM cC an => ?_); have cD := zu r an (fun i hi (h : i = f) => by omega); have cE := G.ch an (fun b hb (e : b = f) => by have := (hP.2.2.2 b hb).2; have := J; omega); have cF := D.ch an (fun (h : d = f) => by have := C.lt; omega); refine yE (nB (nS ?_)); refine ysr <| yp 1 [] (.a (cC.cs 0 9) .z) <| yo (yT [iX 4, uX p.utf.b0, uX p.utf.b1, uX p.utf.b2, iX p.utf.n, .string p.marks, .slice (po.map at0) pn pc, .string p.text, iX p.within] cF fun dN cG aZ => ?_); have cH := zu cD aZ (fun i hi (h : i = d) => by omega); have cI := cE.ch aZ (fun b hb (e : b = d) => by have := (hP.2.2.2 b hb).2; have := K; omega); refine yz 3 <| qd (yR2 [.agg #[iX 4, uX p.utf.b0, uX p.utf.b1, uX p.utf.b2, iX p.utf.n, .string p.marks, .slice (po.map at0) pn pc, .string p.text, iX p.within], nX] (.a (cG.cs 0 9) .z) ?_); refine Fed.mk' (p' := (PS.mk 4 ⟨p.utf.b0, p.utf.b1, p.utf.b2, p.utf.n⟩ p.marks p.params p.text p.within)) (l := []) po pn pc none 0 0 (.inl ⟨rfl, rfl, rfl, rfl⟩) rfl (cI.old) (ActsAt.nil _ _) (Up.ch cH) ?_; simp only [qb8, atP, v, m, t, j, ↓reduceIte, Int.reduceEq, Int.reduceLE, Int.reduceLT, reduceCtorEq, sA, ne_eq]
 refine yz 9 <| yc (rE c 58) (fun A => ?_) fun A => ?_
 ·exfalso; omega
 refine q7 <| yp 3 [] (.l (g.c 5) .z) <| yo (yB [uX c] 5 1 fun dO cJ cK dP cL X => ?_); have dQ := zn cK r; have cM := zu r X iZ; have cN := G.ch X iZ; have cO := g.ch X id; have cP := D.ch X id; refine yo (qbQ (some ⟨cJ, 0, none⟩) 1 1 [c] (some 12) (by kernel_rfl) (Rd.all cL) rfl ?_); refine yp 7 [] (.p (q := (p.marks).size + ((qq [c])).size ≤ 9223372036854775807) (by simp only [qax]; omega) .z) <| yo (yT [iX p.state, uX p.utf.b0, uX p.utf.b1, uX p.utf.b2, iX p.utf.n, .string (p.marks ++ (qq [c])), .slice (po.map at0) pn pc, .string p.text, iX p.within] cO fun dR cQ ao => ?_); have cR := zu cM ao (fun i hi (h : i = f) => by omega); have cS := cN.ch ao (fun b hb (e : b = f) => by have := (hP.2.2.2 b hb).2; have := J; omega); have cT := cP.ch ao (fun (h : d = f) => by have := C.lt; omega); refine yE (nB (nS ?_)); refine ysr <| yp 1 [] (.a (cQ.cs 0 9) .z) <| yo (yT [iX p.state, uX p.utf.b0, uX p.utf.b1, uX p.utf.b2, iX p.utf.n, .string (p.marks ++ (qq [c])), .slice (po.map at0) pn pc, .string p.text, iX p.within] cT fun dS cU b3 => ?_); have cV := zu cR b3 (fun i hi (h : i = d) => by omega); have cW := cS.ch b3 (fun b hb (e : b = d) => by have := (hP.2.2.2 b hb).2; have := K; omega); refine yz 3 <| qd (yR2 [.agg #[iX p.state, uX p.utf.b0, uX p.utf.b1, uX p.utf.b2, iX p.utf.n, .string (p.marks ++ (qq [c])), .slice (po.map at0) pn pc, .string p.text, iX p.within], nX] (.a (cU.cs 0 9) .z) ?_); refine Fed.mk' (p' := (PS.mk p.state ⟨p.utf.b0, p.utf.b1, p.utf.b2, p.utf.n⟩ (p.marks ++ (qq [c])) p.params p.text p.within)) (l := []) po pn pc none 0 0 (.inl ⟨rfl, rfl, rfl, rfl⟩) rfl (cW.old) (ActsAt.nil _ _) (Up.ch cV) ?_
 simp only [qb8, atP, v, m, t, j, A, ↓reduceIte, Int.reduceEq, Int.reduceLE, Int.reduceLT, reduceCtorEq, sA, ne_eq]
def firstN (c : Nat) : Int :=
 if c < 128 then 240 else if c < 194 then 241 else if c < 224 then 2 else if c = 224 then 19 else if c < 237 then 3 else if c = 237 then 35 else if c < 240 then 3 else if c = 240 then 52 else if c < 244 then 4 else if c = 244 then 68 else 241
def accN (i : Nat) : Int × Int := if i = 0 then (128, 191) else if i = 1 then (160, 191) else if i = 2 then (128, 159) else if i = 3 then (144, 191) else if i = 4 then (128, 143) else (0, 0)
abbrev qec : Nat := 1
abbrev gAcc : Nat := 2
def qbS (w : World) : Prop :=
 (∀ c, c < 256 → w.cell? ⟨qec, c, none⟩ = some (.int .u8 (firstN c))) ∧
 ∀ i, i < 16 → w.cell? ⟨gAcc, i * 2, none⟩ = some (.int .u8 (accN i).1) ∧ w.cell? ⟨gAcc, i * 2 + 1, none⟩ = some (.int .u8 (accN i).2)
theorem u_lt : qec < gTop ∧ gAcc < gTop := by decide
theorem qZ {w w' : World} {B : Nat → Prop} (h : Ch B w w') (hT : qbS w) (h0 : ¬ B qec) (h1 : ¬ B gAcc) : qbS w' :=
 ⟨fun j hj => qg h (hT.1 j hj) h0, fun j hj => ⟨qg h (hT.2 j hj).1 h1, qg h (hT.2 j hj).2 h1⟩⟩
theorem qgv {w : World} (h : qbS w) : qec < w.heap.size ∧ gAcc < w.heap.size := ⟨cell_lt (h.1 0 (by decide)), cell_lt (h.2 0 (by decide)).1⟩
theorem qlS {w : World} (h : qbS w) (x : Int) (h0 : 0 ≤ x) (h1 : x ≤ 255) : w.cell? ⟨qec, 0 + x.toNat * 1, none⟩ = some (.int .u8 (firstN x.toNat)) := by
 rw [Nat.zero_add, Nat.mul_one]; exact h.1 _ (by omega)
theorem u_acc {w : World} (h : qbS w) (x : Int) (h0 : 0 ≤ x) (h1 : x ≤ 15) : w.cell? ⟨gAcc, 0 + x.toNat * 2, none⟩ = some (.int .u8 (accN x.toNat).1) ∧ w.cell? ⟨gAcc, 0 + x.toNat * 2 + 1, none⟩ = some (.int .u8 (accN x.toNat).2) := by
 rw [Nat.zero_add]; exact h.2 _ (by omega)
theorem qbK {w : World} {b off : Nat} {l : List Int} (h : Rd w (some ⟨b, off, none⟩) (l.map (Value.int .u8))) (k : Nat) (hk : k < l.length) : w.cell? ⟨b, off + k, none⟩ = some (.int .u8 (l.getD k 0)) := by
 refine qbs h k _ ?_
 rw [List.getElem?_map, List.getElem?_eq_getElem hk]
 simp [List.getD, List.getElem?_eq_getElem hk]
theorem qdt {w : World} {b off : Nat} {l : List Int} (h : Rd w (some ⟨b, off, none⟩) (l.map (Value.int .u8))) (hk : 0 < l.length) : w.cell? ⟨b, off, none⟩ = some (.int .u8 (l.getD 0 0)) := qbK h 0 hk
theorem qcW (op : BinOp) (a b : Int) : 0 ≤ ql op .u8 a b ∧ ql op .u8 a b ≤ 255 := by
 have key : ∀ n : Int, 0 ≤ IntKind.wrap .u8 n ∧ IntKind.wrap .u8 n ≤ 255 := fun n => by
  simp only [IntKind.wrap, IntKind.bits, IntKind.signed]
  constructor
  ·simp; omega
  ·simp; omega
 unfold ql
 cases op <;> exact key _
abbrev fsI (l : List Int) : Int := firstN (l.getD 0 0).toNat
abbrev szI (l : List Int) : Int := ql .and .u8 (fsI l) 7
abbrev rnI (l : List Int) : Int := Int.fdiv (fsI l) (2 ^ min (4 : Int).toNat (IntKind.bits .u8))
theorem first_bd : ∀ c, c < 256 → (0 ≤ firstN c ∧ firstN c ≤ 255) ∧ (0 ≤ Int.fdiv (firstN c) (2 ^ min (4 : Int).toNat (IntKind.bits .u8)) ∧ Int.fdiv (firstN c) (2 ^ min (4 : Int).toNat (IntKind.bits .u8)) ≤ 15) ∧ (0 ≤ ql .and .u8 (firstN c) 7 ∧ ql .and .u8 (firstN c) 7 ≤ 7) ∧ (firstN c < 240 → 2 ≤ ql .and .u8 (firstN c) 7 ∧ ql .and .u8 (firstN c) 7 ≤ 4) := by decide +kernel
theorem fs_bd {l : List Int} (h : ∀ x ∈ l, 0 ≤ x ∧ x ≤ 255) : (0 ≤ fsI l ∧ fsI l ≤ 255) ∧ (0 ≤ rnI l ∧ rnI l ≤ 15) ∧ (0 ≤ szI l ∧ szI l ≤ 7) ∧ (fsI l < 240 → 2 ≤ szI l ∧ szI l ≤ 4) :=
 first_bd _ (by have := qak h (by decide) 0; omega)
def qbn (l : List Int) : Bool :=
 if ((l.length : Nat) : Int) = 0 then false
 else if szI l ≤ ((l.length : Nat) : Int) then true
 else if 1 < ((l.length : Nat) : Int) ∧ (l.getD 1 0 < (accN (rnI l).toNat).1 ∨ (accN (rnI l).toNat).2 < l.getD 1 0) then true
 else if 2 < ((l.length : Nat) : Int) ∧ (l.getD 2 0 < 128 ∨ 191 < l.getD 2 0) then true
 else false
abbrev shI (a k : Int) : Int := IntKind.wrap .i32 (a * 2 ^ min k.toNat (IntKind.bits .i32))
abbrev andB (a b : Int) : Int := ql .and .u8 a b
abbrev orR (a b : Int) : Int := ql .or .i32 a b
abbrev maskI (l : List Int) : Int := Int.fdiv (shI (fsI l) 31) (2 ^ min (31 : Int).toNat (IntKind.bits .i32))
def qfJ (l : List Int) : Int × Int :=
 if ((l.length : Nat) : Int) < 1 then (65533, 0)
 else if 240 ≤ fsI l then (orR (ql .andNot .i32 (l.getD 0 0) (maskI l)) (ql .and .i32 65533 (maskI l)), 1)
 else if ((l.length : Nat) : Int) < szI l then (65533, 1)
 else if l.getD 1 0 < (accN (rnI l).toNat).1 ∨ (accN (rnI l).toNat).2 < l.getD 1 0 then (65533, 1)
 else if szI l ≤ 2 then (orR (shI (andB (l.getD 0 0) 31) 6) (andB (l.getD 1 0) 63), 2)
 else if l.getD 2 0 < 128 ∨ 191 < l.getD 2 0 then (65533, 1)
 else if szI l ≤ 3 then (orR (orR (shI (andB (l.getD 0 0) 15) 12) (shI (andB (l.getD 1 0) 63) 6)) (andB (l.getD 2 0) 63), 3)
 else if l.getD 3 0 < 128 ∨ 191 < l.getD 3 0 then (65533, 1)
 else (orR (orR (orR (shI (andB (l.getD 0 0) 7) 18) (shI (andB (l.getD 1 0) 63) 12)) (shI (andB (l.getD 2 0) 63) 6)) (andB (l.getD 3 0) 63), 4)
def qgw (l : List Int) : Int × Int := if 0 < ((l.length : Nat) : Int) ∧ l.getD 0 0 < 128 then (l.getD 0 0, 1) else qfJ l
theorem qiw {l : List Int} (h : ∀ x ∈ l, 0 ≤ x ∧ x ≤ 255) (h0 : 0 < l.length) : 1 ≤ (qgw l).2 ∧ (qgw l).2 ≤ ((l.length : Nat) : Int) := by
 obtain ⟨_, _, _, h4⟩ := fs_bd h
 unfold qgw qfJ
 repeat' split
 all_goals (try dsimp only)
 all_goals omega
def itU (l : List Int) : Nat → List Int × List Int
 | 0 => ([], l)
 | k + 1 => if 0 < (itU l k).2.length ∧ qbn (itU l k).2 = true then ((itU l k).1 ++ [(qgw (itU l k).2).1], (itU l k).2.drop (qgw (itU l k).2).2.toNat) else itU l k
theorem qfK {l : List Int} {k : Nat} (h1 : 0 < (itU l k).2.length) (h2 : qbn (itU l k).2 = true) : itU l (k + 1) = ((itU l k).1 ++ [(qgw (itU l k).2).1], (itU l k).2.drop (qgw (itU l k).2).2.toNat) := if_pos ⟨h1, h2⟩
theorem qgx {l : List Int} {k : Nat} (h : ¬ (0 < (itU l k).2.length ∧ qbn (itU l k).2 = true)) (j : Nat) : itU l (k + j) = itU l k := by
 induction j with
 | zero => rfl
 | succ j ih =>
  show (if 0 < (itU l (k + j)).2.length ∧ qbn (itU l (k + j)).2 = true then _ else itU l (k + j)) = itU l k
  rw [ih, if_neg h]
theorem qcB {l : List Int} (h : ∀ x ∈ l, 0 ≤ x ∧ x ≤ 255) (k : Nat) : ∀ x ∈ (itU l k).2, 0 ≤ x ∧ x ≤ 255 := by
 induction k with
 | zero => exact h
 | succ k ih =>
  unfold itU
  split
  ·exact fun x hx => ih x (List.mem_of_mem_drop hx)
  ·exact ih
theorem itU_len {l : List Int} (h : ∀ x ∈ l, 0 ≤ x ∧ x ≤ 255) (k : Nat) : (itU l k).1.length ≤ k ∧ (itU l k).2.length + (itU l k).1.length ≤ l.length := by
 induction k with
 | zero => simp [itU]
 | succ k ih =>
  unfold itU
  split
  ·rename_i hc
   have := qiw (qcB h k) hc.1
   simp only [List.length_append, List.length_cons, List.length_nil, List.length_drop]
   omega
  ·omega
theorem qlT {w : World} {b off cap n : Nat} {ys : List Value} (h : Rd w (some ⟨b, off, none⟩) ys) (hl : ys.length ≤ cap) : Rd w (some ⟨b, if cap = n then off else off + n * 1, none⟩) (ys.drop n) := by
 by_cases e : cap = n
 ·rw [show ys.drop n = [] from List.drop_eq_nil_of_le (by omega)]; exact Rd.nil _ _
 ·rw [if_neg e, Nat.mul_one]
  refine ⟨(fun e => by cases e), fun ad e j u hj => ?_⟩
  obtain rfl := Option.some.inj e
  have := h.2 _ rfl (n + j) u (by rw [← hj, List.getElem?_drop])
  rw [qbu] at this ⊢
  rw [show off + n + j = off + (n + j) by omega]
  exact this
def US.pend (u : US) : List Int := [u.b0, u.b1, u.b2].take u.n.toNat
def mkU (l : List Int) : US := ⟨l.getD 0 0, l.getD 1 0, l.getD 2 0, ((l.length : Nat) : Int)⟩
def u0 : US := ⟨0, 0, 0, 0⟩
def qcs (u : US) (c : Int) : US × List Int := (mkU ((itU (u.pend ++ [c]) 4).2.take 3), (itU (u.pend ++ [c]) 4).1)
structure US.ok (u : US) : Prop where
 n : 0 ≤ u.n ∧ u.n ≤ 3
 b0 : 0 ≤ u.b0 ∧ u.b0 ≤ 255
 b1 : 0 ≤ u.b1 ∧ u.b1 ≤ 255
 b2 : 0 ≤ u.b2 ∧ u.b2 ≤ 255
theorem US.ok.pend {u : US} (h : u.ok) : ∀ x ∈ u.pend, 0 ≤ x ∧ x ≤ 255 := fun x hx => by
 have := List.mem_of_mem_take hx
 simp only [List.mem_cons, List.not_mem_nil, or_false] at this
 rcases this with rfl | rfl | rfl
 ·exact h.b0
 ·exact h.b1
 ·exact h.b2
theorem US.ok.len {u : US} (h : u.ok) : u.pend.length = u.n.toNat := by
 have := h.n
 simp [US.pend]; omega
theorem US.ok.rd {u : US} (h : u.ok) {w : World} {b : Nat} {T : TypeId} (hb : Blk w b [.int .u8 u.b0, .int .u8 u.b1, .int .u8 u.b2, .int .i64 u.n] T) : Rd w (some ⟨b, 0, none⟩) (u.pend.map (Value.int .u8)) := by
 have h1 := h.n
 refine Rd.blk hb fun j hj => ?_
 rw [List.length_map, h.len] at hj
 rw [List.getElem?_map, Nat.zero_add, US.pend, List.getElem?_take, if_pos hj]
 have : j = 0 ∨ j = 1 ∨ j = 2 := by omega
 rcases this with rfl | rfl | rfl <;> rfl
theorem qhA {w : World} {b : Nat} {T : TypeId} {l : List Int} {n : Int} (h3 : l.length ≤ 3) (hn : n = ((l.length : Nat) : Int)) (hb : Blk w b (put [.int .u8 0, .int .u8 0, .int .u8 0, .int .i64 0] 0 (l.map (Value.int .u8))) T) :
  Blk w b [.int .u8 (mkU l).b0, .int .u8 (mkU l).b1, .int .u8 (mkU l).b2, .int .i64 0] T := by
 match l, h3 with
 | [], _ => exact hb
 | [_], _ => exact hb
 | [_, _], _ => exact hb
 | [_, _, _], _ => exact hb
theorem qlU {l : List Int} (h : ∀ x ∈ l, 0 ≤ x ∧ x ≤ 255) (h3 : l.length ≤ 3) : (mkU l).ok :=
 ⟨⟨by simp [mkU], by simp [mkU]; omega⟩, qak h (by decide) 0, qak h (by decide) 1, qak h (by decide) 2⟩
set_option maxHeartbeats 4000000 in
theorem qbL {w : World} (b off cap : Nat) (l : List Int) (hU : qbS w) (hr : Rd w (some ⟨b, off, none⟩) (l.map (Value.int .u8))) (hb : b < w.heap.size) (hB : ∀ x ∈ l, 0 ≤ x ∧ x ≤ 255) (hn : l.length ≤ 1000) : Calls Tryz.prog 90 [.slice (some ⟨b, off, none⟩) l.length cap].toArray w fun e w' => e = .returned (.bool (qbn l)) ∧ Ch (fun _ => False) w w' := by
 have R := qak hB (by decide) 0; have S := qak hB (by decide) 1; have T := qak hB (by decide) 2; have U := qak hB (by decide) 3; obtain ⟨⟨D, E⟩, ⟨F, G⟩, ⟨H, I⟩, J⟩ := fs_bd hB; unfold fsI at D E; unfold rnI fsI at F G; unfold szI fsI at H I; unfold fsI szI fsI at J; refine yA Tryz.func90 rfl <| yx 1 <| yx 3 <| ys <| yx 2 <| yc (rE ((l.length : Nat) : Int) 0) (fun a => ?_) fun a => ?_
 ·refine yx 1 <| qd (rS (yR1 (.bool false) ?_)); refine ⟨zc ?_, Up.ch (zm w)⟩; simp only [qbn, a, ↓reduceIte, true_or, or_true, and_true, true_and, and_false, false_and, or_false, false_or]
 refine yk <| ysr <| yp 6 [] (.i 0 (l.length) (.l (v := uX (l.getD 0 0)) (o := off) (qdt hr (by omega)) (.i (l.getD 0 0) (256) (.l (o := (0 + ((l.getD 0 0)).toNat * 1)) (qlS hU ((l.getD 0 0)) (by omega) (by omega)) .z)))) <| ye <| ys <| ysr <| yp 5 [] (.q6 (ql .and .u8 (firstN ((l.getD 0 0) : Int).toNat) 7) .z) <| ye <| yc (rM (ql .and .u8 (firstN ((l.getD 0 0) : Int).toNat) 7) ((l.length : Nat) : Int)) (fun f => ?_) fun f => ?_
 ·refine yx 1 <| qd (rS (yR1 (.bool true) ?_)); refine ⟨zc ?_, Up.ch (zm w)⟩; simp only [qbn, a, f, ↓reduceIte, true_or, or_true, and_true, true_and, and_false, false_and, or_false, false_or]
 refine yk <| ysr <| yp 4 [] (.p (q := 0 ≤ (4 : Int)) (by omega) (.i (Int.fdiv (firstN ((l.getD 0 0) : Int).toNat) (2 ^ min (4 : Int).toNat (IntKind.bits .u8))) (16) (.m (u_acc hU ((Int.fdiv (firstN ((l.getD 0 0) : Int).toNat) (2 ^ min (4 : Int).toNat (IntKind.bits .u8)))) (by omega) (by omega)).1 (.m (u_acc hU ((Int.fdiv (firstN ((l.getD 0 0) : Int).toNat) (2 ^ min (4 : Int).toNat (IntKind.bits .u8)))) (by omega) (by omega)).2 (.e .z))))) <| yo (yN [uX 0, uX 0] 154 fun V y K W L A => ?_); have X := zn K (zm w); have M := zu (zm w) A iZ; have N := Ch.rd A hr id; refine yo (yT [uX (accN ((Int.fdiv (firstN ((l.getD 0 0) : Int).toNat) (2 ^ min (4 : Int).toNat (IntKind.bits .u8))) : Int).toNat).1, uX (accN ((Int.fdiv (firstN ((l.getD 0 0) : Int).toNat) (2 ^ min (4 : Int).toNat (IntKind.bits .u8))) : Int).toNat).2] L fun Y O B => ?_); have P := zu M B (fun i hi (h : i = y) => by omega); have Q := Ch.rd B N (fun (h : b = y) => by have := (Nat.lt_of_lt_of_le hb (zs (zm w))); omega); refine ye <| ys <| ys <| yD [] fun Z a0 t => ?_; have j := zu P t iZ; have r := Ch.rd t Q id; have C := O.ch t id; refine yd (uL 0 3) [] .z <| yv [26] (rL 1 ((l.length : Nat) : Int)) (fun g => ?_) fun g => ?_
 ·refine yd (uL 3 7) [] (.i 1 (l.length) (.l (v := uX (l.getD 1 0)) (o := (off + 1)) (qbK r 1 (by omega)) (.l (C.c 0) .z))) <| yv [33] (rL (l.getD 1 0) (accN ((Int.fdiv (firstN ((l.getD 0 0) : Int).toNat) (2 ^ min (4 : Int).toNat (IntKind.bits .u8))) : Int).toNat).1) (fun d => ?_) fun d => ?_
  ·refine yd (uL 10 8) [] .z <| yDe (nS ?_); refine yct <| yx 1 <| qd (rS (yR1 (.bool true) ?_)); refine ⟨zc ?_, Up.ch j⟩; simp only [qbn, a, f, g, d, ↓reduceIte, true_or, or_true, and_true, true_and, and_false, false_and, or_false, false_or]
  refine yd (uL 10 8) [] (.l (C.c 1) (.i 1 (l.length) (.l (v := uX (l.getD 1 0)) (o := (off + 1)) (qbK r 1 (by omega)) .z))) <| yDe (nS ?_); refine yc (rL (accN ((Int.fdiv (firstN ((l.getD 0 0) : Int).toNat) (2 ^ min (4 : Int).toNat (IntKind.bits .u8))) : Int).toNat).2 (l.getD 1 0)) (fun k => ?_) fun k => ?_
  ·refine yx 1 <| qd (rS (yR1 (.bool true) ?_)); refine ⟨zc ?_, Up.ch j⟩; simp only [qbn, a, f, g, d, k, ↓reduceIte, true_or, or_true, and_true, true_and, and_false, false_and, or_false, false_or]
  refine ysr <| yq 3 <| yw [44] (rL 2 ((l.length : Nat) : Int)) (fun n => ?_) fun n => ?_
  ·refine yp 8 [] (.i 2 (l.length) (.l (v := uX (l.getD 2 0)) (o := (off + 2)) (qbK r 2 (by omega)) .z)) <| yw [49] (rL (l.getD 2 0) 128) (fun s => ?_) fun s => ?_
   ·refine yz 14 <| yct <| yx 1 <| qd (rS (yR1 (.bool true) ?_)); refine ⟨zc ?_, Up.ch j⟩; simp only [qbn, a, f, g, d, k, n, s, ↓reduceIte, true_or, or_true, and_true, true_and, and_false, false_and, or_false, false_or]
   refine yp 14 [] (.i 2 (l.length) (.l (v := uX (l.getD 2 0)) (o := (off + 2)) (qbK r 2 (by omega)) .z)) <| ye <| yc (rL 191 (l.getD 2 0)) (fun u => ?_) fun u => ?_
   ·refine yx 1 <| qd (rS (yR1 (.bool true) ?_)); refine ⟨zc ?_, Up.ch j⟩; simp only [qbn, a, f, g, d, k, n, s, u, ↓reduceIte, true_or, or_true, and_true, true_and, and_false, false_and, or_false, false_or]
   refine yk <| yx 1 <| qd (yR1 (.bool false) ?_); refine ⟨zc ?_, Up.ch j⟩; simp only [qbn, a, f, g, d, k, n, s, u, ↓reduceIte, true_or, or_true, and_true, true_and, and_false, false_and, or_false, false_or]
  refine yz 14 <| ycf <| yk <| yx 1 <| qd (yR1 (.bool false) ?_); refine ⟨zc ?_, Up.ch j⟩; simp only [qbn, a, f, g, d, k, n, ↓reduceIte, true_or, or_true, and_true, true_and, and_false, false_and, or_false, false_or]
 refine yd (uL 3 15) [] .z <| yDe (nS ?_); refine ycf <| ysr <| yq 3 <| yw [44] (rL 2 ((l.length : Nat) : Int)) (fun d => ?_) fun d => ?_
 ·exfalso; omega
 refine yz 14 <| ycf <| yk <| yx 1 <| qd (yR1 (.bool false) ?_); refine ⟨zc ?_, Up.ch j⟩; simp only [qbn, a, f, g, d, ↓reduceIte, true_or, or_true, and_true, true_and, and_false, false_and, or_false, false_or]
set_option maxHeartbeats 4000000 in
theorem qeP {w : World} (b off cap : Nat) (l : List Int) (hU : qbS w) (hr : Rd w (some ⟨b, off, none⟩) (l.map (Value.int .u8))) (hb : b < w.heap.size) (hB : ∀ x ∈ l, 0 ≤ x ∧ x ≤ 255) (hn : l.length ≤ 1000) : Calls Tryz.prog 120 [.slice (some ⟨b, off, none⟩) l.length cap].toArray w fun e w' => e = .returned (.tuple #[rX (qfJ l).1, iX (qfJ l).2]) ∧ Ch (fun _ => False) w w' := by
 have Q := qak hB (by decide) 0; have R := qak hB (by decide) 1; have S := qak hB (by decide) 2; have T := qak hB (by decide) 3; obtain ⟨⟨F, G⟩, ⟨H, I⟩, ⟨J, K⟩, L⟩ := fs_bd hB; unfold fsI at F G; unfold rnI fsI at H I; unfold szI fsI at J K; unfold fsI szI fsI at L; have U := qcW .and (l.getD 0 0) 31; have V := qcW .and (l.getD 1 0) 63; have W := qcW .and (l.getD 0 0) 15; have X := qcW .and (l.getD 2 0) 63; have Y := qcW .and (l.getD 0 0) 7; have Z := qcW .and (l.getD 3 0) 63; refine yA Tryz.func120 rfl <| yx 2 <| yx 3 <| ys <| yx 2 <| yc (rL ((l.length : Nat) : Int) 1) (fun a => ?_) fun a => ?_
 ·refine yx 2 <| qd (rS (yR2 [rX 65533, iX 0] .z ?_)); refine ⟨?_, Up.ch (zm w)⟩; simp only [qfJ, a, ↓reduceIte, true_or, or_true, and_true, true_and, and_false, false_and, or_false, false_or]
 refine yk <| ysr <| yp 4 [] (.i 0 (l.length) (.l (v := uX (l.getD 0 0)) (o := off) (qdt hr (by omega)) .z)) <| ye <| ysr <| yp 4 [] (.i (l.getD 0 0) (256) (.l (o := (0 + ((l.getD 0 0)).toNat * 1)) (qlS hU ((l.getD 0 0)) (by omega) (by omega)) .z)) <| ye <| ys <| yx 2 <| yc (rM 240 (firstN ((l.getD 0 0) : Int).toNat)) (fun d => ?_) fun d => ?_
 ·refine ysr <| yp 5 [] (.q3 (firstN ((l.getD 0 0) : Int).toNat) (.p (q := 0 ≤ (31 : Int)) (by omega) (.p (q := 0 ≤ (31 : Int)) (by omega) .z))) <| ye <| ysr <| yp 11 [] (.i 0 (l.length) (.l (v := uX (l.getD 0 0)) (o := off) (qdt hr (by omega)) (.q3 (l.getD 0 0) .z))) <| ye <| qd (rS (yR2 [rX (ql .or .i32 (ql .andNot .i32 (l.getD 0 0) (Int.fdiv (IntKind.wrap .i32 ((firstN ((l.getD 0 0) : Int).toNat) * 2 ^ min (31 : Int).toNat (IntKind.bits .i32))) (2 ^ min (31 : Int).toNat (IntKind.bits .i32)))) (ql .and .i32 65533 (Int.fdiv (IntKind.wrap .i32 ((firstN ((l.getD 0 0) : Int).toNat) * 2 ^ min (31 : Int).toNat (IntKind.bits .i32))) (2 ^ min (31 : Int).toNat (IntKind.bits .i32))))), iX 1] .z ?_)); refine ⟨?_, Up.ch (zm w)⟩; simp only [qfJ, a, d, ↓reduceIte, true_or, or_true, and_true, true_and, and_false, false_and, or_false, false_or]
 refine yk <| ysr <| yp 4 [] (.q6 (ql .and .u8 (firstN ((l.getD 0 0) : Int).toNat) 7) .z) <| ye <| ysr <| yp 4 [] (.p (q := 0 ≤ (4 : Int)) (by omega) (.i (Int.fdiv (firstN ((l.getD 0 0) : Int).toNat) (2 ^ min (4 : Int).toNat (IntKind.bits .u8))) (16) (.m (u_acc hU ((Int.fdiv (firstN ((l.getD 0 0) : Int).toNat) (2 ^ min (4 : Int).toNat (IntKind.bits .u8)))) (by omega) (by omega)).1 (.m (u_acc hU ((Int.fdiv (firstN ((l.getD 0 0) : Int).toNat) (2 ^ min (4 : Int).toNat (IntKind.bits .u8)))) (by omega) (by omega)).2 (.e .z))))) <| yo (yN [uX 0, uX 0] 154 fun a0 B M a1 N C => ?_); have a2 := zn M (zm w); have O := zu (zm w) C iZ; have P := Ch.rd C hr id; refine yo (yT [uX (accN ((Int.fdiv (firstN ((l.getD 0 0) : Int).toNat) (2 ^ min (4 : Int).toNat (IntKind.bits .u8))) : Int).toNat).1, uX (accN ((Int.fdiv (firstN ((l.getD 0 0) : Int).toNat) (2 ^ min (4 : Int).toNat (IntKind.bits .u8))) : Int).toNat).2] N fun a3 D E => ?_); have g := zu O E (fun i hi (h : i = B) => by omega); have y := Ch.rd E P (fun (h : b = B) => by have := (Nat.lt_of_lt_of_le hb (zs (zm w))); omega); refine ye <| ys <| yx 3 <| yc (rL ((l.length : Nat) : Int) (ql .and .u8 (firstN ((l.getD 0 0) : Int).toNat) 7)) (fun f => ?_) fun f => ?_
 ·refine yx 2 <| qd (rS (yR2 [rX 65533, iX 1] .z ?_)); refine ⟨?_, Up.ch g⟩; simp only [qfJ, a, d, f, ↓reduceIte, true_or, or_true, and_true, true_and, and_false, false_and, or_false, false_or]
 refine yk <| ysr <| yp 4 [] (.i 1 (l.length) (.l (v := uX (l.getD 1 0)) (o := (off + 1)) (qbK y 1 (by omega)) .z)) <| ye <| ys <| ysr <| yp 5 [] (.l (D.c 0) .z) <| yw [55] (rL (l.getD 1 0) (accN ((Int.fdiv (firstN ((l.getD 0 0) : Int).toNat) (2 ^ min (4 : Int).toNat (IntKind.bits .u8))) : Int).toNat).1) (fun j => ?_) fun j => ?_
 ·refine yz 10 <| yct <| yx 2 <| qd (rS (yR2 [rX 65533, iX 1] .z ?_)); refine ⟨?_, Up.ch g⟩; simp only [qfJ, a, d, f, j, ↓reduceIte, true_or, or_true, and_true, true_and, and_false, false_and, or_false, false_or]
 refine yp 10 [] (.l (D.c 1) .z) <| ye <| yc (rL (accN ((Int.fdiv (firstN ((l.getD 0 0) : Int).toNat) (2 ^ min (4 : Int).toNat (IntKind.bits .u8))) : Int).toNat).2 (l.getD 1 0)) (fun k => ?_) fun k => ?_
 ·refine yx 2 <| qd (rS (yR2 [rX 65533, iX 1] .z ?_)); refine ⟨?_, Up.ch g⟩; simp only [qfJ, a, d, f, j, k, ↓reduceIte, true_or, or_true, and_true, true_and, and_false, false_and, or_false, false_or]
 refine yk <| ys <| yx 2 <| yc (rM (ql .and .u8 (firstN ((l.getD 0 0) : Int).toNat) 7) 2) (fun n => ?_) fun n => ?_
 ·refine ysr <| yp 10 [] (.q3 (ql .and .u8 (l.getD 0 0) 31) (.p (q := 0 ≤ (6 : Int)) (by omega) (.q3 (ql .and .u8 (l.getD 1 0) 63) .z))) <| ye <| qd (rS (yR2 [rX (ql .or .i32 (IntKind.wrap .i32 ((ql .and .u8 (l.getD 0 0) 31) * 2 ^ min (6 : Int).toNat (IntKind.bits .i32))) (ql .and .u8 (l.getD 1 0) 63)), iX 2] .z ?_)); refine ⟨?_, Up.ch g⟩; simp only [qfJ, a, d, f, j, k, n, ↓reduceIte, true_or, or_true, and_true, true_and, and_false, false_and, or_false, false_or]
 refine yk <| ysr <| yp 4 [] (.i 2 (l.length) (.l (v := uX (l.getD 2 0)) (o := (off + 2)) (qbK y 2 (by omega)) .z)) <| ye <| ys <| ysr <| yq 3 <| yw [76] (rL (l.getD 2 0) 128) (fun r => ?_) fun r => ?_
 ·refine yz 6 <| yct <| yx 2 <| qd (rS (yR2 [rX 65533, iX 1] .z ?_)); refine ⟨?_, Up.ch g⟩; simp only [qfJ, a, d, f, j, k, n, r, ↓reduceIte, true_or, or_true, and_true, true_and, and_false, false_and, or_false, false_or]
 refine yz 6 <| yc (rL 191 (l.getD 2 0)) (fun s => ?_) fun s => ?_
 ·refine yx 2 <| qd (rS (yR2 [rX 65533, iX 1] .z ?_)); refine ⟨?_, Up.ch g⟩; simp only [qfJ, a, d, f, j, k, n, r, s, ↓reduceIte, true_or, or_true, and_true, true_and, and_false, false_and, or_false, false_or]
 refine yk <| ys <| yx 2 <| yc (rM (ql .and .u8 (firstN ((l.getD 0 0) : Int).toNat) 7) 3) (fun t => ?_) fun t => ?_
 ·refine ysr <| yp 15 [] (.q3 (ql .and .u8 (l.getD 0 0) 15) (.p (q := 0 ≤ (12 : Int)) (by omega) (.q3 (ql .and .u8 (l.getD 1 0) 63) (.p (q := 0 ≤ (6 : Int)) (by omega) (.q3 (ql .and .u8 (l.getD 2 0) 63) .z))))) <| ye <| qd (rS (yR2 [rX (ql .or .i32 (ql .or .i32 (IntKind.wrap .i32 ((ql .and .u8 (l.getD 0 0) 15) * 2 ^ min (12 : Int).toNat (IntKind.bits .i32))) (IntKind.wrap .i32 ((ql .and .u8 (l.getD 1 0) 63) * 2 ^ min (6 : Int).toNat (IntKind.bits .i32)))) (ql .and .u8 (l.getD 2 0) 63)), iX 3] .z ?_)); refine ⟨?_, Up.ch g⟩; simp only [qfJ, a, d, f, j, k, n, r, s, t, ↓reduceIte, true_or, or_true, and_true, true_and, and_false, false_and, or_false, false_or]
 refine yk <| ysr <| yp 4 [] (.i 3 (l.length) (.l (v := uX (l.getD 3 0)) (o := (off + 3)) (qbK y 3 (by omega)) .z)) <| ye <| ys <| ysr <| yq 3 <| yw [100] (rL (l.getD 3 0) 128) (fun u => ?_) fun u => ?_
 ·refine yz 6 <| yct <| yx 2 <| qd (rS (yR2 [rX 65533, iX 1] .z ?_)); refine ⟨?_, Up.ch g⟩; simp only [qfJ, a, d, f, j, k, n, r, s, t, u, ↓reduceIte, true_or, or_true, and_true, true_and, and_false, false_and, or_false, false_or]
 refine yz 6 <| yc (rL 191 (l.getD 3 0)) (fun A => ?_) fun A => ?_
 ·refine yx 2 <| qd (rS (yR2 [rX 65533, iX 1] .z ?_)); refine ⟨?_, Up.ch g⟩; simp only [qfJ, a, d, f, j, k, n, r, s, t, u, A, ↓reduceIte, true_or, or_true, and_true, true_and, and_false, false_and, or_false, false_or]
 refine yk <| ysr <| yp 20 [] (.q3 (ql .and .u8 (l.getD 0 0) 7) (.p (q := 0 ≤ (18 : Int)) (by omega) (.q3 (ql .and .u8 (l.getD 1 0) 63) (.p (q := 0 ≤ (12 : Int)) (by omega) (.q3 (ql .and .u8 (l.getD 2 0) 63) (.p (q := 0 ≤ (6 : Int)) (by omega) (.q3 (ql .and .u8 (l.getD 3 0) 63) .z))))))) <| ye <| qd (yR2 [rX (ql .or .i32 (ql .or .i32 (ql .or .i32 (IntKind.wrap .i32 ((ql .and .u8 (l.getD 0 0) 7) * 2 ^ min (18 : Int).toNat (IntKind.bits .i32))) (IntKind.wrap .i32 ((ql .and .u8 (l.getD 1 0) 63) * 2 ^ min (12 : Int).toNat (IntKind.bits .i32)))) (IntKind.wrap .i32 ((ql .and .u8 (l.getD 2 0) 63) * 2 ^ min (6 : Int).toNat (IntKind.bits .i32)))) (ql .and .u8 (l.getD 3 0) 63)), iX 4] .z ?_); refine ⟨?_, Up.ch g⟩; simp only [qfJ, a, d, f, j, k, n, r, s, t, u, A, ↓reduceIte, true_or, or_true, and_true, true_and, and_false, false_and, or_false, false_or]
set_option maxHeartbeats 4000000 in
theorem qix {w : World} (b off cap : Nat) (l : List Int) (hU : qbS w) (hr : Rd w (some ⟨b, off, none⟩) (l.map (Value.int .u8))) (hb : b < w.heap.size) (hB : ∀ x ∈ l, 0 ≤ x ∧ x ≤ 255) (hn : l.length ≤ 1000) : Calls Tryz.prog 107 [.slice (some ⟨b, off, none⟩) l.length cap].toArray w fun e w' => e = .returned (.tuple #[rX (qgw l).1, iX (qgw l).2]) ∧ Ch (fun _ => False) w w' := by
 have D := qak hB (by decide) 0; have E := qak hB (by decide) 1; have F := qak hB (by decide) 2; have G := qak hB (by decide) 3; obtain ⟨⟨j, m⟩, ⟨n, p⟩, ⟨q, r⟩, s⟩ := fs_bd hB; unfold fsI at j m; unfold rnI fsI at n p; unfold szI fsI at q r; unfold fsI szI fsI at s; refine yA Tryz.func107 rfl <| yx 2 <| ys <| yx 3 <| q8 <| qN [0, 6, 7, 8] (f' := [(0, .slice (some ⟨b, off, none⟩) l.length cap), (6, .slice (some ⟨b, off, none⟩) l.length cap), (7, iX ((l.length : Nat) : Int)), (8, iX 0)]) <| qw (σ := Nat) (fun k => [(0, .slice (some ⟨b, off, none⟩) l.length cap), (6, .slice (some ⟨b, off, none⟩) l.length cap), (7, iX ((l.length : Nat) : Int)), (8, iX 0)]) (fun k u => Ch (fun _ => False) w u) (fun k => k) 0 rfl ?_ ?_
 ·exact Ch.refl _ _
 intro k H t I J; have d := t; have a := zu (zm w) d iZ; have h := qZ d hU id id; have f := Ch.rd d hr id; refine yx 1 <| ys <| yc (rL 0 ((l.length : Nat) : Int)) (fun c => ?_) fun c => ?_
 ·refine yk <| ys <| q8 <| ysr <| yp 3 [] (.i 0 (l.length) (.l (v := uX (l.getD 0 0)) (o := off) (qdt f (by omega)) .z)) <| ye <| ys <| yx 2 <| yc (rL (l.getD 0 0) 128) (fun g => ?_) fun g => ?_
  ·refine ysr <| yp 4 [] (.q3 (l.getD 0 0) .z) <| ye <| qd (rS (rB (rS (qy (rB (rS (yR2 [rX (l.getD 0 0), iX 1] .z ?_))))))); refine ⟨?_, Up.ch a⟩; simp only [qgw, c, g, ↓reduceIte, true_or, or_true, and_true, true_and, and_false, false_and, or_false, false_or]
  refine yk <| qk (eB (eS (qf (qe (nS ?_))))); refine ysr <| yq 1 <| yo (yQ (qeP b off cap l h f (Nat.lt_of_lt_of_le hb (zs a)) hB hn) fun K y => ?_); have A := zu a y iZ; refine yz 7 <| qd (yR2 [rX (qfJ l).1, iX (qfJ l).2] .z ?_); refine ⟨?_, Up.ch A⟩; simp only [qgw, c, g, ↓reduceIte, true_or, or_true, and_true, true_and, and_false, false_and, or_false, false_or]
 refine qk (eS (qf (qe (nS ?_)))); refine ysr <| yq 1 <| yo (yQ (qeP b off cap l h f (Nat.lt_of_lt_of_le hb (zs a)) hB hn) fun L B => ?_); have C := zu a B iZ; refine yz 7 <| qd (yR2 [rX (qfJ l).1, iX (qfJ l).2] .z ?_); refine ⟨?_, Up.ch C⟩; simp only [qgw, c, ↓reduceIte, true_or, or_true, and_true, true_and, and_false, false_and, or_false, false_or]
theorem qkj {N : Nat} {f : Fr} {w : World} {Q : Exit → Act → World → Prop} {id l : Nat} (h : ∀ a, Has N f a → Q (.goto l) a w) : ∀ a, Has N f a → Exit.inBlock id Q (.goto l) a w := h
theorem Own.ltOf {w : World} {e : TypeId} {sz n cap b : Nat} {o : Option Nat} {xs : List Value} (h : Own w e sz o n cap xs) (ho : o = some b) : b < w.heap.size := by subst ho; exact h.lt
def qbH (l : List Ac) : List Value := (l.map fun a => a.vals (.slice none 0 0)).flatten
theorem qdX (l : List Ac) (a : Ac) : qbH l ++ a.vals (.slice none 0 0) = qbH (l ++ [a]) := by simp [qbH]
theorem qdu (l : List Ac) : (qbH l).length = l.length * 6 := by
 induction l with
 | nil => rfl
 | cons a l ih =>
  have : qbH (a :: l) = a.vals (.slice none 0 0) ++ qbH l := by simp [qbH]
  rw [this, List.length_append, ih]
  simp [Ac.vals]; omega
theorem qbE {w : World} {o : Option Nat} {n c : Nat} {l : List Ac} {K : Nat → Prop} (h : Own w qlP 6 o n c (qbH l)) (hp : ∀ a ∈ l, a.params = []) (hK : ∀ b, o = some b → K b) : ActsAt w o n c l K := by
 have hn := h.1
 rw [qdu] at hn
 refine ⟨⟨l.map fun a : Ac => a.vals (.slice none 0 0), h, by simp, fun i hi hi' => ?_⟩, by omega, hK⟩
 refine ⟨none, 0, 0, ?_, by rw [hp _ (List.getElem_mem hi)]; exact IntsAt.nil _ _ _⟩
 rw [List.getElem_map]; rfl
theorem take_acP (l : List Int) (k : Nat) (h : k < l.length) (al : List Ac) : (al ++ (l.take k).map acP) ++ [acP (l.getD k 0)] = al ++ (l.take (k + 1)).map acP := by
 rw [List.take_succ_eq_append_getElem h, List.map_append, List.append_assoc]
 simp [List.getD, List.getElem?_eq_getElem h]
theorem qiy {w : World} {b : Nat} {l : List Int} (h : Rd w (some ⟨b, 0, none⟩) (l.map (Value.int .i32))) (k : Nat) (hk : k < l.length) : w.cell? ⟨b, 0 + ((k : Nat) : Int).toNat * 1, none⟩ = some (.int .i32 (l.getD k 0)) := by
 rw [Int.toNat_natCast, Nat.mul_one]
 refine qbs h k _ ?_
 rw [List.getElem?_map, List.getElem?_eq_getElem hk]
 simp [List.getD, List.getElem?_eq_getElem hk]
def qaF (u : US) : List Int := List.replicate u.n.toNat 65533
def qK (p : PS) (c : Int) : PS × List Ac :=
 if c < 128 then
  (if c = 27 then (atP 1, (qaF p.utf).map acP)
  else if c < 32 ∨ c = 127 then ({ p with utf := u0 }, (qaF p.utf).map acP ++ [acX c])
  else ({ p with utf := (qcs u0 c).1 }, (qaF p.utf).map acP ++ (qcs u0 c).2.map acP))
 else ({ p with utf := (qcs p.utf c).1 }, (qcs p.utf c).2.map acP)
def qan (p : PS) (c : Int) : PS × List Ac :=
 if p.state = 0 then qK p c
 else if 5 ≤ p.state then qJ p c
 else if c = 24 ∨ c = 26 then (atP 0, [])
 else if c = 27 then (atP 1, [])
 else if c < 32 then (p, [acX c])
 else if 127 ≤ c then (p, [])
 else if p.state = 3 ∨ p.state = 4 then qb8 p c
 else qt p c
def qaR (p : PS) (c : Int) : PS × List Ac :=
 if p.state = 7 then (if c = 92 then qv p p.within else qan (atP 1) c) else qan p c
structure PS.lim (p : PS) : Prop where
 u : p.utf.ok
 m : p.marks.size ≤ 2
 t : p.text.size ≤ 40
 n : p.params.length ≤ 8
 b : ∀ x ∈ p.params, 0 ≤ x ∧ x ≤ 9999
theorem zv {w : World} {e : TypeId} {sz n cap b : Nat} {o : Option Nat} {xs : List Value} (h : Own w e sz o n cap xs) (hb : b = w.heap.size := by assumption) : ∀ b', o = some b' → ¬ b' = b := fun b' e => by have := h.ltOf e; omega
set_option maxHeartbeats 4000000 in
theorem qlV (d : US) (w : World) (hn : 0 ≤ d.n ∧ d.n ≤ 3) : Calls Tryz.prog 91 [.agg #[uX d.b0, uX d.b1, uX d.b2, iX d.n]].toArray w fun e w' => ∃ o n cc, e = .returned (.tuple #[.agg #[uX 0, uX 0, uX 0, iX 0], .slice (o.map at0) n cc]) ∧ Own w' qkh 1 o n cc ((qaF d).map (Value.int .i32)) ∧ (∀ b, o = some b → w.heap.size ≤ b) ∧ Ch (fun _ => False) w w' := by
 refine yA Tryz.func91 rfl <| ysr <| yo (yN [uX d.b0, uX d.b1, uX d.b2, iX d.n] 52 fun a2 F G a3 H I => ?_); have a4 := zn G (zm w); have r := zu (zm w) I iZ; refine yo (yN [uX 0, uX 0, uX 0, iX 0] 52 fun f g J a5 s t => ?_); have a6 := zn J r; have v := zu r t iZ; have x := H.ch t id; refine yz 3 <| yx 1 <| ys <| ysr <| yp 3 [] (.l (x.c 3) .z) <| ye <| q8 <| qN [2, 4, 6, 7] (f' := [(2, pX g), (4, nX), (6, iX d.n), (7, iX 0)]) <| qw (σ := Nat × Option Nat × Nat) (fun ⟨k, o, oc⟩ => [(2, pX g), (4, .slice (o.map at0) k oc), (6, iX d.n), (7, iX ((k : Nat) : Int))]) (fun ⟨k, o, oc⟩ u => k ≤ d.n.toNat ∧ Ch (fun _ => False) f u ∧ Own u qkh 1 o k oc ((List.replicate k 65533).map (Value.int .i32)) ∧ ∀ b, o = some b → f.heap.size ≤ b) (fun ⟨k, o, oc⟩ => d.n.toNat - k) (0, none, 0) rfl ?_ ?_
 ·exact ⟨Nat.zero_le _, Ch.refl _ _, Own.nil _ _ _, fun b e => by cases e⟩
 intro p a7 K a8 L; obtain ⟨k, o, oc⟩ := p; obtain ⟨hk, j, hO, m⟩ := K; have a9 : F < f.heap.size := x.lt; have M : g < f.heap.size := s.lt; have y := zu v j iZ; have N := s.ch j id; refine yx 1 <| ys <| yc (rL ((k : Nat) : Int) d.n) (fun O => ?_) fun O => ?_
 ·refine yk <| ys <| q8 <| q7 <| yq 1 <| yo (yB [rX 65533] 21 1 fun aa q A ab P B => ?_); have ac := zv (b := q) hO; have ad := zn A y; have ae : f.heap.size ≤ q := by rw [A]; exact zs j
  have C := zt j B eZ; have Q := hO.ch B iZ; refine yo (qaf 21 1 4 o k oc ((List.replicate k 65533).map (Value.int .i32)) (some ⟨q, 0, none⟩) 1 1 [rX 65533] (some 11) (k + 1) rfl ((List.replicate (k + 1) 65533).map (Value.int .i32)) (by rw [List.replicate_succ', List.map_append]; rfl) (by kernel_rfl) Q (Rd.all P) rfl rfl (fun h => by cases h) (by constructor <;> first | omega | (simp only [maxLen]; omega)) ?_); intro af D R S T ag U; have V : ∀ b, D = some b → f.heap.size ≤ b := fun b e => by
   rcases T with h | ⟨g', h, h'⟩
   ·exact m b (h ▸ e)
   rw [h] at e; have := zi e; have := zs C; omega
  have W := zt C U (fun i hi h => by have := m _ h; omega); refine yq 4 <| yE (nB (nS ?_)); refine q7 <| yp 2 [] (.q6 (((k : Nat) : Int) + 1) .z) <| yE (fun a ha => L (k + 1, D, R) _ ⟨by omega, W, S, V⟩ (by show d.n.toNat - (k + 1) < d.n.toNat - k; omega) a (ha.kp [2, 4, 6, 7]))
 have X : k = d.n.toNat := by omega
 refine qk (eS (qf (qe (nS ?_)))); refine ysr <| yq 2 <| yo (yT [uX 0, uX 0, uX 0, iX 0] N fun ah Y E => ?_); have Z := zu y E (fun i hi (h : i = g) => by omega); have a0 := hO.ch E (fun b e (h : b = g) => by have := m b e; have := M; omega); refine yz 4 <| qd (yR2 [.agg #[uX 0, uX 0, uX 0, iX 0], .slice (o.map at0) k oc] (.a (Y.cs 0 4) .z) ?_); subst X; have a1 := zs v; exact ⟨_, _, _, rfl, a0, (fun b e => Nat.le_trans a1 (m b e)), Up.ch Z⟩
set_option maxHeartbeats 4000000 in
theorem qhB {q : Option Nat} {qn qc : Nat} {al : List Ac} (rb rc : Nat) (rl : List Int) (w : World) (hq : Own w qlP 6 q qn qc (qbH al)) (hr : Rd w (some ⟨rb, 0, none⟩) (rl.map (Value.int .i32))) (hrb : rb < w.heap.size) (hqr : ∀ b, b = rb → ¬ q = some b) (hb : qn ≤ 1000 ∧ rl.length ≤ 1000) : Calls Tryz.prog 92 [.slice (q.map at0) qn qc, .slice (some ⟨rb, 0, none⟩) rl.length rc].toArray w fun e w' => ∃ o n c, e = .returned (.slice (o.map at0) n c) ∧ Own w' qlP 6 o n c (qbH (al ++ rl.map acP)) ∧ (∀ b, o = some b → q = some b ∨ w.heap.size ≤ b) ∧ Ch (fun b => q = some b) w w' := by
 refine yA Tryz.func92 rfl <| yx 1 <| ys <| yx 3 <| q8 <| qN [0, 7, 8, 9] (f' := [(0, .slice (q.map at0) qn qc), (7, .slice (some ⟨rb, 0, none⟩) rl.length rc), (8, iX ((rl.length : Nat) : Int)), (9, iX 0)]) <| qw (σ := Nat × Option Nat × Nat) (fun ⟨k, o, oc⟩ => [(0, .slice (o.map at0) (qn + k) oc), (7, .slice (some ⟨rb, 0, none⟩) rl.length rc), (8, iX ((rl.length : Nat) : Int)), (9, iX ((k : Nat) : Int))]) (fun ⟨k, o, oc⟩ u => k ≤ rl.length ∧ Own u qlP 6 o (qn + k) oc (qbH (al ++ (rl.take k).map acP)) ∧ (∀ b, o = some b → q = some b ∨ w.heap.size ≤ b) ∧ Rd u (some ⟨rb, 0, none⟩) (rl.map (Value.int .i32)) ∧ Ch (fun b => q = some b) w u) (fun ⟨k, o, oc⟩ => rl.length - k) (0, q, qc) rfl ?_ ?_
 ·exact ⟨Nat.zero_le _, by simpa using hq, fun b e => .inl e, hr, (Ch.refl (fun b => q = some b) w)⟩
 intro p M v N x; obtain ⟨k, o, oc⟩ := p; obtain ⟨hk, hO, d, j, f⟩ := v; refine yx 1 <| ys <| yc (rL ((k : Nat) : Int) ((rl.length : Nat) : Int)) (fun y => ?_) fun y => ?_
 ·refine yk <| ys <| q8 <| ysr <| yp 3 [] (.i ((k : Nat) : Int) (rl.length) (.l (o := (0 + (((k : Nat) : Int)).toNat * 1)) (qiy j k (by omega)) .z)) <| ye <| q7 <| yq 3 <| yo (yB [iX 0, rX (rl.getD k 0), uX 0, oX, nX, oX] 115 1 fun O A B P C g => ?_); have Q := zn B f; have m := zt f g eZ; have D := hO.ch g iZ; have E := Ch.rd g j id; refine yo (qaf 115 6 72 o (qn + k) oc (qbH (al ++ (rl.take k).map acP)) (some ⟨A, 0, none⟩) 1 1 [iX 0, rX (rl.getD k 0), uX 0, oX, nX, oX] (some 17) (qn + (k + 1)) (by omega) (qbH (al ++ (rl.take (k + 1)).map acP)) ((qdX _ (acP (rl.getD k 0))).trans (by rw [take_acP rl k (by omega)])) (by kernel_rfl) D (Rd.all C) rfl rfl (fun h => by cases h) (by constructor <;> first | omega | (simp only [maxLen]; omega)) ?_); intro R r F G H S s; have I : ∀ b, r = some b → q = some b ∨ w.heap.size ≤ b := fun b e => by
   rcases H with h | ⟨g', h, h'⟩
   ·exact d b (h ▸ e)
   rw [h] at e; have := zi e; have := zs m; exact .inr (by omega)
  have J := zt m s (fun i hi h => (d i h).elim id (fun h => by omega)); have K := Ch.rd s E (fun h => (d _ h).elim (fun h => hqr _ rfl h) (fun h => by omega)); refine yq 6 <| yE (nB (nS ?_)); refine q7 <| yp 2 [] (.q6 (((k : Nat) : Int) + 1) .z) <| yE (fun a ha => x (k + 1, r, F) _ ⟨by omega, G, I, K, J⟩ (by show rl.length - (k + 1) < rl.length - k; omega) a (ha.kp [0, 7, 8, 9]))
 have L : k = rl.length := by omega
 refine qk (eS (qf (qe (nS ?_)))); refine yx 2 <| qd (yR1 (.slice (o.map at0) (qn + k) oc) ?_); subst L; have t := hO; rw [List.take_length] at t; exact ⟨_, _, _, rfl, t, d, f⟩
set_option maxHeartbeats 4000000 in
theorem qhC {q : Option Nat} {qn qc : Nat} {al : List Ac} (w : World) (rc : Nat) (hq : Own w qlP 6 q qn qc (qbH al)) : Calls Tryz.prog 92 [.slice (q.map at0) qn qc, .slice none 0 rc].toArray w fun e w' => ∃ o n c, e = .returned (.slice (o.map at0) n c) ∧ Own w' qlP 6 o n c (qbH al) ∧ (∀ b, o = some b → q = some b ∨ w.heap.size ≤ b) ∧ Ch (fun b => q = some b) w w' := by
 refine yA Tryz.func92 rfl <| yx 1 <| ys <| yx 3 <| q8 <| qN [0, 7, 8, 9] (f' := [(0, .slice (q.map at0) qn qc), (7, .slice none 0 rc), (8, iX 0), (9, iX 0)]) <| qw (σ := Nat) (fun k => [(0, .slice (q.map at0) qn qc), (7, .slice none 0 rc), (8, iX 0), (9, iX ((k : Nat) : Int))]) (fun k u => Own u qlP 6 q qn qc (qbH al) ∧ Ch (fun b => q = some b) w u) (fun k => k) 0 rfl ?_ ?_
 ·exact ⟨hq, (Ch.refl (fun b => q = some b) w)⟩
 intro k g a h i; obtain ⟨hO, d⟩ := a; refine yx 1 <| ys <| yc (rL ((k : Nat) : Int) 0) (fun f => ?_) fun f => ?_
 ·exfalso; omega
 refine qk (eS (qf (qe (nS ?_)))); refine yx 2 <| qd (yR1 (.slice (q.map at0) qn qc) ?_); exact ⟨q, qn, qc, rfl, hO, fun b e => .inl e, d⟩
theorem qd9 {q : Option Nat} {qn qc : Nat} {al : List Ac} {ro : Option Nat} {rn rc : Nat} {rl : List Int} (w : World) (hq : Own w qlP 6 q qn qc (qbH al)) (hr : Own w qkh 1 ro rn rc (rl.map (Value.int .i32))) (hqr : ∀ b, ro = some b → ¬ q = some b) (hb : qn ≤ 1000 ∧ rn ≤ 1000) : Calls Tryz.prog 92 [.slice (q.map at0) qn qc, .slice (ro.map at0) rn rc].toArray w fun e w' => ∃ o n c, e = .returned (.slice (o.map at0) n c) ∧ Own w' qlP 6 o n c (qbH (al ++ rl.map acP)) ∧ (∀ b, o = some b → q = some b ∨ w.heap.size ≤ b) ∧ Ch (fun b => q = some b) w w' := by
 have hn := hr.1; rw [List.length_map, Nat.mul_one] at hn; cases ro with
 | none =>
  obtain ⟨rfl, rfl⟩ := hr.2.2.2.1 rfl; obtain rfl : rl = [] := List.eq_nil_of_length_eq_zero hn; simpa using qhC w 0 hq
 | some rb =>
  subst hn; exact qhB rb rc rl w hq hr.rd hr.lt (fun b e => e ▸ hqr rb rfl) hb
theorem qed {w : World} {ad : Addr} {l : List Int} {k : IntKind} (h : Rd w (some ad) (l.map (Value.int k))) (n : Nat) : Rd w (some ad) ((l.take n).map (Value.int k)) :=
  ⟨(fun e => by cases e), fun ad' e j u hj => h.2 ad' e j u (by
    rw [List.map_take, List.getElem?_take] at hj
    split at hj
    · exact hj
    · cases hj)⟩
set_option maxHeartbeats 4000000 in
theorem qlW (d : US) (c : Int) (w : World) (hU : qbS w) (hd : d.ok) (hc : 0 ≤ c ∧ c ≤ 255) : Calls Tryz.prog 93 [.agg #[uX d.b0, uX d.b1, uX d.b2, iX d.n], uX c].toArray w fun e w' => ∃ o n cc, e = .returned (.tuple #[.agg #[uX (qcs d c).1.b0, uX (qcs d c).1.b1, uX (qcs d c).1.b2, iX (qcs d c).1.n], .slice (o.map at0) n cc]) ∧ Own w' qkh 1 o n cc (((qcs d c).2).map (Value.int .i32)) ∧ (∀ b, o = some b → w.heap.size ≤ b) ∧ Ch (fun _ => False) w w' := by
 have c4 := hd.n; have c5 : (d.pend ++ [c]).length = d.n.toNat + 1 := by rw [List.length_append, hd.len]; rfl
 have ag : ∀ x ∈ d.pend ++ [c], 0 ≤ x ∧ x ≤ 255 := fun x hx => (List.mem_append.1 hx).elim (hd.pend x) (fun h => by simp at h; omega); refine yA Tryz.func93 rfl <| ysr <| yo (yN [uX d.b0, uX d.b1, uX d.b2, iX d.n] 52 fun c6 H aE c7 aF ah => ?_); have c8 := zn aE (zm w); have ai := zu (zm w) ah iZ; have aG := qZ ah hU id id; refine yo (yN [uX 0, uX 0, uX 0, iX 0] 52 fun c9 f aH ca aj T => ?_); have cb := zn aH ai; have ak := zu ai T iZ; have aI := qZ T aG id id; have I := aF.ch T id; refine yz 3 <| ysr <| yp 4 [] (.l (I.c 3) (.j d.n (3) .z)) ?_; refine yo (qaf 5 1 1 none 0 0 [] (some ⟨H, 0, none⟩) (d.n : Int).toNat 3 (d.pend.map (Value.int .u8)) (some 15) d.n.toNat (Nat.zero_add _) (d.pend.map (Value.int .u8)) rfl (by kernel_rfl) (Own.nil _ _ _) (hd.rd I) (by rw [List.length_map, hd.len, Nat.mul_one]) (qcV _) (fun h => by cases h) (by constructor <;> first | omega | (simp only [maxLen]; omega)) ?_); intro cd J aJ aK U ce y; replace y := qC y; have al : ¬ J = some H := fun e => by
  rcases U with h | ⟨g', h, h'⟩
  ·rw [h] at e; cases e
  rw [h] at e; have := zi e; have := I.lt; omega
 have am : ¬ J = some f := fun e => by
  rcases U with h | ⟨g', h, h'⟩
  ·rw [h] at e; cases e
  rw [h] at e; have := zi e; have := aj.lt; omega
 have K : ∀ b, J = some b → w.heap.size ≤ b := fun b e => by
  rcases U with h | ⟨g', h, h'⟩
  ·rw [h] at e; cases e
  rw [h] at e; have := zi e; have := zs ak; omega
 have an := zu ak y iZ; have aL := qZ y aI id id; have aM := I.ch y id; have aN := aj.ch y id; refine yq 6 <| yo (yB [uX c] 5 1 fun cf aO aP cg aQ A => ?_); have ci := zn aP an; have ao := zu an A iZ; have aR := qZ A aL id id; have ap := aM.ch A id; have aq := aN.ch A id; have aS := aK.ch A iZ; refine yo (qaf 5 1 1 J d.n.toNat aJ (d.pend.map (Value.int .u8)) (some ⟨aO, 0, none⟩) 1 1 [uX c] (some 18) (d.n.toNat + 1) rfl ((d.pend ++ [c]).map (Value.int .u8)) (by rw [List.map_append]; rfl) (by kernel_rfl) aS (Rd.all aQ) rfl rfl (fun h => by cases h) (by constructor <;> first | omega | (simp only [maxLen]; omega)) ?_); intro s aT V W X aU L; obtain ⟨g, rfl⟩ : ∃ b, aT = some b := aU (by omega); have cj : Df H g := qaE X (fun h => al h) ap.lt; have ck : Df f g := qaE X (fun h => am h) aq.lt; have cl : w.heap.size ≤ g := by
  rcases X with h | ⟨g', h, h'⟩
  ·exact K _ h.symm
  have := zi h; have := zs ao; omega
 have Y := zu ao L (fun i hi h => by have := K _ h; omega); have aV := qZ L aR (fun h => by have := K _ h; have := qgv hU; omega) (fun h => by have := K _ h; have := qgv hU; omega); have aW := ap.ch L al; have ar := aq.ch L am; refine yz 9 <| yx 1 <| ys <| q8 <| qN [4, 6, 7] (f' := [(4, pX f), (6, .slice (some ⟨g, 0, none⟩) (d.n.toNat + 1) V), (7, nX)]) <| qw (σ := Nat × Option Nat × Nat × Nat × Nat) (fun ⟨k, o, oc, m, cp⟩ => [(4, pX f), (6, .slice (some ⟨g, m, none⟩) (itU (d.pend ++ [c]) k).2.length cp), (7, .slice (o.map at0) k oc)]) (fun ⟨k, o, oc, m, cp⟩ u => (itU (d.pend ++ [c]) k).1.length = k ∧ (itU (d.pend ++ [c]) k).2.length ≤ cp ∧ Rd u (some ⟨g, m, none⟩) ((itU (d.pend ++ [c]) k).2.map (Value.int .u8)) ∧ Ch (fun _ => False) s u ∧ Own u qkh 1 o k oc ((itU (d.pend ++ [c]) k).1.map (Value.int .i32)) ∧ ∀ b, o = some b → s.heap.size ≤ b) (fun ⟨k, o, oc, m, cp⟩ => d.n.toNat + 1 - k) (0, none, 0, 0, V) (by show _ = _; simp only [itU, List.length_append, hd.len]; rfl) ?_ ?_
 ·exact ⟨rfl, by show (d.pend ++ [c]).length ≤ V; have := W.2.1; rw [List.length_append, hd.len]; exact this, W.rd, Ch.refl _ _, Own.nil _ _ _, fun b e => by cases e⟩
 intro p cm aX cn aY; obtain ⟨k, o, oc, m, cp⟩ := p; obtain ⟨aZ, b3, Z, B, hO, t⟩ := aX; have co := itU_len ag k; have a0 := qcB ag k; have cq : H < s.heap.size := aW.lt; have au : f < s.heap.size := ar.lt; have av : g < s.heap.size := W.lt; have a1 := zu Y B iZ; have aw := qZ B aV id id; have M := ar.ch B id; have a2 := Nat.lt_of_lt_of_le av (zs B); refine ys <| ysr <| yq 4 <| yw [22] (rL 0 (((itU (d.pend ++ [c]) k).2.length : Nat) : Int)) (fun b4 => ?_) fun b4 => ?_
 ·refine yq 5 <| yo (yQ (qbL g m cp (itU (d.pend ++ [c]) k).2 aw Z a2 a0 (by omega)) fun cr v => ?_); have a3 := zu a1 v iZ; have b5 := zt B v eZ; have b6 := qZ v aw id id; have a4 := M.ch v id; have a5 := Ch.rd v Z id; have a6 := Nat.lt_of_lt_of_le a2 (zs v); have a7 := hO.ch v iZ; refine yz 7 <| yc (rY (qbn (itU (d.pend ++ [c]) k).2)) (fun N => ?_) fun N => ?_
  ·have b7 := N; refine yk <| q8 <| ysr <| yq 1 <| yo (yQ (qix g m cp (itU (d.pend ++ [c]) k).2 b6 a5 a6 a0 (by omega)) fun ct C => ?_); have b8 := zu a3 C iZ; have b9 := zt b5 C eZ; have ba := Ch.rd C a5 id; have bb := Nat.lt_of_lt_of_le a6 (zs C); have bc := a7.ch C iZ; have cu := qiw a0 (by omega); refine yz 7 <| yD [2, 3] fun cv cw D => ?_; have bd := zu b8 D iZ; have ax := zt b9 D eZ; have bf := Ch.rd D ba id; have bg := Nat.lt_of_lt_of_le bb (zs D); have ay := bc.ch D iZ; refine ydT [0, 1, 4, 5, 6] [] rfl (fun _ => (.j (qgw (itU (d.pend ++ [c]) k).2).2 ((itU (d.pend ++ [c]) k).2.length) .z)) <| yK 2 (yB [rX (qgw (itU (d.pend ++ [c]) k).2).1] 21 1 fun cx a8 az cy bh O => ?_); have cz := zv (b := a8) ay; have cA := zn az bd; have cB : s.heap.size ≤ a8 := by rw [az]; exact zs ax
   have aA := zt ax O eZ; have bi := Ch.rd O bf id; have bj := Nat.lt_of_lt_of_le bg (zs O); have bk := ay.ch O iZ; refine q9 ?_; refine yK 3 (qaf 21 1 4 o k oc ((itU (d.pend ++ [c]) k).1.map (Value.int .i32)) (some ⟨a8, 0, none⟩) 1 1 [rX (qgw (itU (d.pend ++ [c]) k).2).1] (some 34) (k + 1) rfl (((itU (d.pend ++ [c]) k).1 ++ [(qgw (itU (d.pend ++ [c]) k).2).1]).map (Value.int .i32)) (by rw [List.map_append]; rfl) (by kernel_rfl) bk (Rd.all bh) rfl rfl (fun h => by cases h) (by constructor <;> first | omega | (simp only [maxLen]; omega)) ?_); intro cC aB bl bm bn cD a9; have bo : ∀ b, aB = some b → s.heap.size ≤ b := fun b e => by
    rcases bn with h | ⟨g', h, h'⟩
    ·exact t b (h ▸ e)
    rw [h] at e; have := zi e; have := zs aA; omega
   have bp := zt aA a9 (fun i hi h => by have := t _ h; omega); have bq := Ch.rd a9 bi (fun h => by have := t _ h; have := av; omega); have cE := Nat.lt_of_lt_of_le bj (zs a9); refine q9 <| yd [7, 8] [] .z <| yDe (nB  (fun a ha => aY (k + 1, aB, bl, (if cp = ((qgw (itU (d.pend ++ [c]) k).2).2 : Int).toNat then m else m + ((qgw (itU (d.pend ++ [c]) k).2).2 : Int).toNat * 1), (cp - ((qgw (itU (d.pend ++ [c]) k).2).2 : Int).toNat)) _ ⟨by rw [(qfK (l := (d.pend ++ [c])) (k := k) (by omega) (by assumption)), List.length_append, aZ]; rfl, (by rw [(qfK (l := (d.pend ++ [c])) (k := k) (by omega) (by assumption)), List.length_drop]; omega), (by rw [(qfK (l := (d.pend ++ [c])) (k := k) (by omega) (by assumption)), List.map_drop]; exact qlT bq (by rw [List.length_map]; exact b3)), bp, (by rw [(qfK (l := (d.pend ++ [c])) (k := k) (by omega) (by assumption))]; exact bm), bo⟩ (by show d.n.toNat + 1 - (k + 1) < d.n.toNat + 1 - k; omega) a (by simp only [(qfK (l := (d.pend ++ [c])) (k := k) (by omega) (by assumption)), List.length_drop]; exact ha.kp [4, 6, 7])))
  have E := qgx (l := (d.pend ++ [c])) (k := k) (fun hx => absurd (hx.2.symm.trans N) (by decide)) (4 - k); have b7 := N; refine qk (eS (qf (qe (nS ?_)))); refine ysr <| yo (yN [uX 0, uX 0, uX 0, iX 0] 52 fun cF q br cG bs F => ?_); have aC := zv (b := q) a7; have cH := zn br a3; have bt := zu a3 F iZ; have bu := a4.ch F id; have bv := Ch.rd F a5 id; have bw := Nat.lt_of_lt_of_le a6 (zs F); have bx := a7.ch F iZ; refine ye <| ysr <| yq 3 ?_; have aa : ((itU (d.pend ++ [c]) k).2.take 3).length ≤ 3 := by rw [List.length_take]; omega
  refine yo (qcx 1 q 0 3 3 (some ⟨g, m, none⟩) (itU (d.pend ++ [c]) k).2.length cp (((itU (d.pend ++ [c]) k).2.take 3).map (Value.int .u8)) (some 41) ((itU (d.pend ++ [c]) k).2.take 3).length (by rw [List.length_take]; omega) (by kernel_rfl) bs (qed bv 3) (by rw [List.length_map, Nat.mul_one]) (qcV _) (by rw [List.length_map]; simp only [List.length_cons, List.length_nil]; omega) ?_); intro cI ab P; have bz := zu bt P (fun i hi (h : i = q) => by omega); have bA := bu.ch P (fun (h : f = q) => by have := a4.lt; omega); have bB := Nat.lt_of_lt_of_le bw (zs P); have bC := bx.ch P (fun b e (h : b = q) => aC b e h); replace ab := qhA aa rfl ab; refine yq 5 <| yo (yT [uX (mkU ((itU (d.pend ++ [c]) k).2.take 3)).b0, uX (mkU ((itU (d.pend ++ [c]) k).2.take 3)).b1, uX (mkU ((itU (d.pend ++ [c]) k).2.take 3)).b2, iX ((((itU (d.pend ++ [c]) k).2.take 3).length : Nat) : Int)] ab fun cJ bD Q => ?_); have bE := zu bz Q (fun i hi (h : i = q) => by omega); have bF := bA.ch Q (fun (h : f = q) => by have := a4.lt; omega); have bG := Nat.lt_of_lt_of_le bB (zs Q); have bH := bC.ch Q (fun b e (h : b = q) => aC b e h); refine ye <| ysr <| yp 2 [] (.a (bD.cs 0 4) .z) <| yo (yT [uX (mkU ((itU (d.pend ++ [c]) k).2.take 3)).b0, uX (mkU ((itU (d.pend ++ [c]) k).2.take 3)).b1, uX (mkU ((itU (d.pend ++ [c]) k).2.take 3)).b2, iX ((((itU (d.pend ++ [c]) k).2.take 3).length : Nat) : Int)] bF fun cK bI ac => ?_); have bJ := zu bE ac (fun i hi (h : i = f) => by omega); have cL := Nat.lt_of_lt_of_le bG (zs ac)
  have bK := bH.ch ac (fun b e (h : b = f) => by have := t b e; have := au; omega); refine yz 4 <| qd (yR2 [.agg #[uX (mkU ((itU (d.pend ++ [c]) k).2.take 3)).b0, uX (mkU ((itU (d.pend ++ [c]) k).2.take 3)).b1, uX (mkU ((itU (d.pend ++ [c]) k).2.take 3)).b2, iX ((((itU (d.pend ++ [c]) k).2.take 3).length : Nat) : Int)], .slice (o.map at0) k oc] (.a (bI.cs 0 4) .z) ?_); rw [show k + (4 - k) = 4 by omega] at E; unfold qcs; rw [E]; have ad := zs Y; exact ⟨_, _, _, rfl, bK, (fun b e => Nat.le_trans ad (t b e)), Up.ch bJ⟩
 have E := qgx (l := (d.pend ++ [c])) (k := k) (fun hx => by omega) (4 - k); refine yz 7 <| ycf <| qk (eS (qf (qe (nS ?_)))); refine ysr <| yo (yN [uX 0, uX 0, uX 0, iX 0] 52 fun cM r bL cN bM G => ?_); have aD := zv (b := r) hO; have cO := zn bL a1; have bN := zu a1 G iZ; have bO := M.ch G id; have bP := Ch.rd G Z id; have bQ := Nat.lt_of_lt_of_le a2 (zs G); have bR := hO.ch G iZ; refine ye <| ysr <| yq 3 ?_; have aa : ((itU (d.pend ++ [c]) k).2.take 3).length ≤ 3 := by rw [List.length_take]; omega
 refine yo (qcx 1 r 0 3 3 (some ⟨g, m, none⟩) (itU (d.pend ++ [c]) k).2.length cp (((itU (d.pend ++ [c]) k).2.take 3).map (Value.int .u8)) (some 41) ((itU (d.pend ++ [c]) k).2.take 3).length (by rw [List.length_take]; omega) (by kernel_rfl) bM (qed bP 3) (by rw [List.length_map, Nat.mul_one]) (qcV _) (by rw [List.length_map]; simp only [List.length_cons, List.length_nil]; omega) ?_); intro cP ae R; have bS := zu bN R (fun i hi (h : i = r) => by omega); have bT := bO.ch R (fun (h : f = r) => by have := M.lt; omega); have bU := Nat.lt_of_lt_of_le bQ (zs R); have bV := bR.ch R (fun b e (h : b = r) => aD b e h); replace ae := qhA aa rfl ae; refine yq 5 <| yo (yT [uX (mkU ((itU (d.pend ++ [c]) k).2.take 3)).b0, uX (mkU ((itU (d.pend ++ [c]) k).2.take 3)).b1, uX (mkU ((itU (d.pend ++ [c]) k).2.take 3)).b2, iX ((((itU (d.pend ++ [c]) k).2.take 3).length : Nat) : Int)] ae fun cQ bW S => ?_); have bX := zu bS S (fun i hi (h : i = r) => by omega); have bY := bT.ch S (fun (h : f = r) => by have := M.lt; omega); have bZ := Nat.lt_of_lt_of_le bU (zs S); have c0 := bV.ch S (fun b e (h : b = r) => aD b e h); refine ye <| ysr <| yp 2 [] (.a (bW.cs 0 4) .z) <| yo (yT [uX (mkU ((itU (d.pend ++ [c]) k).2.take 3)).b0, uX (mkU ((itU (d.pend ++ [c]) k).2.take 3)).b1, uX (mkU ((itU (d.pend ++ [c]) k).2.take 3)).b2, iX ((((itU (d.pend ++ [c]) k).2.take 3).length : Nat) : Int)] bY fun cR c1 af => ?_); have c2 := zu bX af (fun i hi (h : i = f) => by omega); have cS := Nat.lt_of_lt_of_le bZ (zs af)
 have c3 := c0.ch af (fun b e (h : b = f) => by have := t b e; have := au; omega); refine yz 4 <| qd (yR2 [.agg #[uX (mkU ((itU (d.pend ++ [c]) k).2.take 3)).b0, uX (mkU ((itU (d.pend ++ [c]) k).2.take 3)).b1, uX (mkU ((itU (d.pend ++ [c]) k).2.take 3)).b2, iX ((((itU (d.pend ++ [c]) k).2.take 3).length : Nat) : Int)], .slice (o.map at0) k oc] (.a (c1.cs 0 4) .z) ?_); rw [show k + (4 - k) = 4 by omega] at E; unfold qcs; rw [E]; have ad := zs Y; exact ⟨_, _, _, rfl, c3, (fun b e => Nat.le_trans ad (t b e)), Up.ch c2⟩
theorem qiz : u0.ok := ⟨by decide, by decide, by decide, by decide⟩
theorem qfL {X : US × List Int} {d : US} {c : Int} (hX : qcs d c = X) (d' : US) (c' : Int) (w : World) (hU : qbS w) (hd : d.ok) (hc : 0 ≤ c ∧ c ≤ 255) : Calls Tryz.prog 93 [.agg #[uX d.b0, uX d.b1, uX d.b2, iX d.n], uX c].toArray w fun e w' => ∃ o n cc, e = .returned (.tuple #[.agg #[uX X.1.b0, uX X.1.b1, uX X.1.b2, iX X.1.n], .slice (o.map at0) n cc]) ∧ Own w' qkh 1 o n cc ((X.2).map (Value.int .i32)) ∧ (∀ b, o = some b → w.heap.size ≤ b) ∧ Ch (fun _ => False) w w' := by
 subst hX; exact qlW d c w hU hd hc
theorem qdv {d : US} (h : d.ok) (c : Int) : (qcs d c).2.length ≤ 4 := by
 have : ∀ (l : List Int) k, (itU l k).1.length ≤ k := fun l k => by
  induction k with
  | zero => simp [itU]
  | succ k ih =>
   unfold itU; split
   ·simp only [List.length_append, List.length_cons, List.length_nil]; omega
   omega
 exact this _ 4
set_option maxHeartbeats 4000000 in
theorem qkk {w : World} {po : Option Nat} {pn pc : Nat} {p : PS} (hP : IntsAt w .i64 po pn pc p.params (fun b => po = some b)) (c : Int) (hcB : 0 ≤ c ∧ c ≤ 255) (hU : qbS w) (hp : p.lim) : Calls Tryz.prog 73 [.agg #[iX p.state, uX p.utf.b0, uX p.utf.b1, uX p.utf.b2, iX p.utf.n, .string p.marks, .slice (po.map at0) pn pc, .string p.text, iX p.within], uX c].toArray w fun e w' => Fed w w' e po (qK p c).1 (qK p c).2 := by
 refine yA Tryz.func73 rfl <| ysr <| yo (yN [iX p.state, uX p.utf.b0, uX p.utf.b1, uX p.utf.b2, iX p.utf.n, .string p.marks, .slice (po.map at0) pn pc, .string p.text, iX p.within] 55 fun d5 f bl d6 a0 ac => ?_); have I := zn bl (zm w); have av := zu (zm w) ac iZ; have bm := hP.ch ac iZ; have bn := qZ ac hU id id; refine yo (yN [iX 0, uX 0, uX 0, uX 0, iX 0, oX, nX, oX, iX 0] 55 fun a1 d bo d7 a2 a3 => ?_); have a4 := zn bo av; have aw := zu av a3 iZ; have ax := bm.ch a3 iZ; have ay := qZ a3 bn id id; have B := a0.ch a3 id; refine yz 3 <| yx 1 <| yx 1 <| ys <| yx 2 <| yc (rL c 128) (fun C => ?_) fun C => ?_
 ·refine ysr <| yp 2 [] (.a (B.cs 1 4) .z) ?_; have bp : f < a1.heap.size := B.lt; have d8 : d < a1.heap.size := a2.lt; refine yo (yC (qlV p.utf _ hp.u.n) ?_); rintro _ d9 ⟨da, db, dc, rfl, bq, br, J⟩; refine ⟨_, rfl, ?_⟩; have bs := zu aw J iZ; have bt := ax.ch J iZ; have bu := qZ J ay id id; have bv := B.ch J id; have bw := a2.ch J id; refine yq 7 <| yo (yT [iX p.state, uX 0, uX 0, uX 0, iX 0, .string p.marks, .slice (po.map at0) pn pc, .string p.text, iX p.within] bv fun az aA K => ?_); have aB := zu bs K (fun i hi (h : i = f) => by omega); have bx := bt.ch K (fun b hb (e : b = f) => by have := (hP.2.2.2 b hb).2; have := I; omega); have bz := qZ K bu (fun (h : qec = f) => by have := qgv hU; have := I; omega) (fun (h : gAcc = f) => by have := qgv hU; have := I; omega); have aC := bw.ch K (fun (h : d = f) => by have := a0.lt; omega); have aD := bq.ch K (fun b e (h : b = f) => by have := br b e; have := bp; omega); refine yz 9 <| q7 <| yq 2 ?_; have bA : d < az.heap.size := aC.lt; have bB : f < az.heap.size := aA.lt; have bC := aD.1; rw [List.length_map, Nat.mul_one] at bC; have dd : (qaF p.utf).length ≤ 3 := by unfold qaF; rw [List.length_replicate]; have := hp.u.n; omega
  refine yo (yC (qd9 (q := none) (al := []) _ (Own.nil _ _ _) aD (fun b e h => by cases h) (by constructor <;> omega)) ?_); rintro _ ad ⟨o, r, a5, rfl, L, ae, v⟩; refine ⟨_, rfl, ?_⟩; replace v := qC v; have s : ∀ b, o = some b → w.heap.size ≤ b := fun b e => (ae b e).elim (fun h => by cases h) (fun h => by have := zs aB; omega); have a6 := zu aB v iZ; have af := bx.ch v iZ; have bD := qZ v bz id id; have M := aC.ch v id; have N := aA.ch v id; have x : ∀ b', o = some b' → ¬ b' = d := fun b' e h => (ae b' e).elim (fun j => by cases j) (fun j => by have := bA; omega); have y : ∀ b', o = some b' → ¬ b' = f := fun b' e h => (ae b' e).elim (fun j => by cases j) (fun j => by have := bB; omega); refine yz 4 <| ys <| q8 <| yx 3 <| yc (rE c 27) (fun t => ?_) fun t => ?_
  ·refine ysr <| yo (yQ (qa9 1 _) fun de ag => ?_); have bE := zu a6 ag iZ; have bF := M.ch ag id; have bG := L.ch ag iZ; refine yq 2 <| yo (yT [iX 1, uX 0, uX 0, uX 0, iX 0, oX, nX, oX, iX 0] bF fun df bH aE => ?_); have bI := zu bE aE (fun i hi (h : i = d) => by omega); have aF := bG.ch aE (fun b e (h : b = d) => x b e h); refine yz 4 <| qd (rB (rS (yR2 [.agg #[iX 1, uX 0, uX 0, uX 0, iX 0, oX, nX, oX, iX 0], .slice (o.map at0) r a5] (.a (bH.cs 0 9) .z) ?_))); refine Fed.mk' (p' := (PS.mk 1 ⟨0, 0, 0, 0⟩ ByteArray.empty [] ByteArray.empty 0)) (l := ([] ++ (qaF p.utf).map acP)) none 0 0 o r a5 (.inr (fun b h => by cases h)) rfl (IntsAt.nil _ _ _) (qbE aF ?_ fun b e => ⟨s b e, aF.ltOf e⟩) (Up.ch bI) ?_
   ·simp only [List.mem_append, List.mem_map, List.not_mem_nil, false_or, List.mem_singleton]; rintro a ⟨_, _, rfl⟩ <;> rfl
   simp only [qK, atP, C, t, ↓reduceIte, Int.reduceLT, Int.reduceLE, Int.reduceEq, and_true, true_and, or_true, true_or, or_false, false_or, and_self, List.nil_append, List.append_assoc, u0]
  refine ysr <| yq 3 <| yw [28] (rL c 32) (fun A => ?_) fun A => ?_
  ·refine yz 7 <| yct <| ys <| qY (fun b => o = some b) [6] (by kernel_rfl) (fun dg dh O => ?_); have aG := zu a6 O iZ; have bJ := af.ch O iZ; have bK := M.ch O id; have aH := N.ch O id; have aI := L.ch O iZ; refine ydC (uL 0 4) [] (fun u hu => (.a (qE hu (aH.cs 0 9) (fun h => y _ h rfl)) .z)) <| yH 4 (yB [iX 1, rX 0, uX c, oX, nX, oX] 115 1 fun di aJ bL dj bM D => ?_); have dk := zv (b := aJ) aI; have dl := zn bL aG; have aK := zu aG D iZ; have bN := bJ.ch D iZ; have aL := bK.ch D id; have bO := aH.ch D id; have aM := aI.ch D iZ; refine qo D eZ ?_; have P := aM.1; rw [qdu] at P; have aN : ([] ++ (qaF p.utf).map acP).length ≤ 3 := by simp only [List.length_append, List.length_map, List.length_nil]; omega
   refine yH 5 (qaf 115 6 72 o r a5 (qbH ([] ++ (qaF p.utf).map acP)) (some ⟨aJ, 0, none⟩) 1 1 [iX 1, rX 0, uX c, oX, nX, oX] (some 37) (r + 1) rfl (qbH (([] ++ (qaF p.utf).map acP) ++ [acX c])) (qdX _ (acX c)) (by kernel_rfl) aM (Rd.all bM) rfl rfl (fun h => by cases h) (by constructor <;> first | omega | (simp only [maxLen]; omega)) ?_); intro dm Q aO bP ah dn a7; have bQ : ∀ b', Q = some b' → ¬ b' = d := fun b' e h => by
    rcases ah with g | ⟨g', g, R⟩
    ·exact x b' (g ▸ e) h
    rw [g] at e; have := zi e; have := aL.lt; omega
   have dp : ∀ b', Q = some b' → ¬ b' = f := fun b' e h => by
    rcases ah with g | ⟨g', g, R⟩
    ·exact y b' (g ▸ e) h
    rw [g] at e; have := zi e; have := bO.lt; omega
   have bR : ∀ b, Q = some b → w.heap.size ≤ b := fun b e => by
    rcases ah with g | ⟨g', g, R⟩
    ·exact s b (g ▸ e)
    rw [g] at e; have := zi e; have := zs aK; omega
   have bS := zu aK a7 (fun i hi h => by have := s _ h; omega); have bT := bN.ch a7 (fun b hb h => by have := (hP.2.2.2 b hb).2; have := s _ h; omega); have bU := aL.ch a7 (fun h => x _ h rfl); refine qo a7 iZ <| yK 6 (yT [iX p.state, uX 0, uX 0, uX 0, iX 0, .string p.marks, .slice (po.map at0) pn pc, .string p.text, iX p.within] bU fun dq bV ai => ?_); have bW := zu bS ai (fun i hi (h : i = d) => by omega); have bX := bT.ch ai (fun b hb (e : b = d) => by have := (hP.2.2.2 b hb).2; have := a4; omega); have aP := bP.ch ai (fun b e (h : b = d) => bQ b e h); refine q9 <| yd [7] [] .z <| yDe (nS ?_); refine qd (rB (rS (yR2 [.agg #[iX p.state, uX 0, uX 0, uX 0, iX 0, .string p.marks, .slice (po.map at0) pn pc, .string p.text, iX p.within], .slice (Q.map at0) (r + 1) aO] (.a (bV.cs 0 9) .z) ?_))); refine Fed.mk' (p' := (PS.mk p.state ⟨0, 0, 0, 0⟩ p.marks p.params p.text p.within)) (l := (([] ++ (qaF p.utf).map acP) ++ [acX c])) po pn pc Q (r + 1) aO (.inr (fun b h => (hP.2.2.2 b h).2)) rfl (bX.old) (qbE aP ?_ fun b e => ⟨bR b e, aP.ltOf e⟩) (Up.ch bW) ?_
   ·simp only [List.mem_append, List.mem_map, List.not_mem_nil, false_or, List.mem_singleton]; rintro a ((⟨_, _, rfl⟩ | rfl)) <;> rfl
   simp only [qK, atP, C, t, A, ↓reduceIte, Int.reduceLT, Int.reduceLE, Int.reduceEq, and_true, true_and, or_true, true_or, or_false, false_or, and_self, List.nil_append, List.append_assoc, u0]
  refine yz 7 <| yc (rE c 127) (fun E => ?_) fun E => ?_
  ·refine ys <| qY (fun b => o = some b) [6] (by kernel_rfl) (fun dr ds S => ?_); have aQ := zu a6 S iZ; have bY := af.ch S iZ; have bZ := M.ch S id; have aR := N.ch S id; have aS := L.ch S iZ; refine ydC (uL 0 4) [] (fun u hu => (.a (qE hu (aR.cs 0 9) (fun h => y _ h rfl)) .z)) <| yH 4 (yB [iX 1, rX 0, uX c, oX, nX, oX] 115 1 fun dt aT c0 du c1 F => ?_); have dv := zv (b := aT) aS; have dw := zn c0 aQ; have aU := zu aQ F iZ; have c2 := bY.ch F iZ; have aV := bZ.ch F id; have c3 := aR.ch F id; have aW := aS.ch F iZ; refine qo F eZ ?_; have P := aW.1; rw [qdu] at P; have aN : ([] ++ (qaF p.utf).map acP).length ≤ 3 := by simp only [List.length_append, List.length_map, List.length_nil]; omega
   refine yH 5 (qaf 115 6 72 o r a5 (qbH ([] ++ (qaF p.utf).map acP)) (some ⟨aT, 0, none⟩) 1 1 [iX 1, rX 0, uX c, oX, nX, oX] (some 37) (r + 1) rfl (qbH (([] ++ (qaF p.utf).map acP) ++ [acX c])) (qdX _ (acX c)) (by kernel_rfl) aW (Rd.all c1) rfl rfl (fun h => by cases h) (by constructor <;> first | omega | (simp only [maxLen]; omega)) ?_); intro dx T aX c4 aj dy a8; have c5 : ∀ b', T = some b' → ¬ b' = d := fun b' e h => by
    rcases aj with g | ⟨g', g, R⟩
    ·exact x b' (g ▸ e) h
    rw [g] at e; have := zi e; have := aV.lt; omega
   have dz : ∀ b', T = some b' → ¬ b' = f := fun b' e h => by
    rcases aj with g | ⟨g', g, R⟩
    ·exact y b' (g ▸ e) h
    rw [g] at e; have := zi e; have := c3.lt; omega
   have c6 : ∀ b, T = some b → w.heap.size ≤ b := fun b e => by
    rcases aj with g | ⟨g', g, R⟩
    ·exact s b (g ▸ e)
    rw [g] at e; have := zi e; have := zs aU; omega
   have c7 := zu aU a8 (fun i hi h => by have := s _ h; omega); have c8 := c2.ch a8 (fun b hb h => by have := (hP.2.2.2 b hb).2; have := s _ h; omega); have c9 := aV.ch a8 (fun h => x _ h rfl); refine qo a8 iZ <| yK 6 (yT [iX p.state, uX 0, uX 0, uX 0, iX 0, .string p.marks, .slice (po.map at0) pn pc, .string p.text, iX p.within] c9 fun dA ca ak => ?_); have cb := zu c7 ak (fun i hi (h : i = d) => by omega); have cc := c8.ch ak (fun b hb (e : b = d) => by have := (hP.2.2.2 b hb).2; have := a4; omega); have aY := c4.ch ak (fun b e (h : b = d) => c5 b e h); refine q9 <| yd [7] [] .z <| yDe (nS ?_); refine qd (rB (rS (yR2 [.agg #[iX p.state, uX 0, uX 0, uX 0, iX 0, .string p.marks, .slice (po.map at0) pn pc, .string p.text, iX p.within], .slice (T.map at0) (r + 1) aX] (.a (ca.cs 0 9) .z) ?_))); refine Fed.mk' (p' := (PS.mk p.state ⟨0, 0, 0, 0⟩ p.marks p.params p.text p.within)) (l := (([] ++ (qaF p.utf).map acP) ++ [acX c])) po pn pc T (r + 1) aX (.inr (fun b h => (hP.2.2.2 b h).2)) rfl (cc.old) (qbE aY ?_ fun b e => ⟨c6 b e, aY.ltOf e⟩) (Up.ch cb) ?_
   ·simp only [List.mem_append, List.mem_map, List.not_mem_nil, false_or, List.mem_singleton]; rintro a ((⟨_, _, rfl⟩ | rfl)) <;> rfl
   simp only [qK, atP, C, t, A, E, ↓reduceIte, Int.reduceLT, Int.reduceLE, Int.reduceEq, and_true, true_and, or_true, true_or, or_false, false_or, and_self, List.nil_append, List.append_assoc, u0]
  refine qp (nB (nS ?_)); refine ysr <| yp 3 [] (.a (N.cs 1 4) .z) ?_; have dB : d < ad.heap.size := M.lt; have cd : f < ad.heap.size := N.lt; obtain ⟨k, am⟩ : ∃ X, qcs u0 c = X := ⟨_, rfl⟩
  have ce : ∀ b, o = some b → b < ad.heap.size := fun b e => L.ltOf e; refine yo (yC (qfL am u0 c _ bD qiz hcB) ?_); rintro _ dC ⟨dD, dE, dF, rfl, cf, aZ, U⟩; refine ⟨_, rfl, ?_⟩; have cg := zu a6 U iZ; have ci := af.ch U iZ; have cj := M.ch U id; have ck := N.ch U id; have cl := L.ch U iZ; refine yq 8 <| yo (yT [iX p.state, uX k.1.b0, uX k.1.b1, uX k.1.b2, iX k.1.n, .string p.marks, .slice (po.map at0) pn pc, .string p.text, iX p.within] ck fun dG cm V => ?_); have cn := zu cg V (fun i hi (h : i = f) => by omega); have co := ci.ch V (fun b hb (e : b = f) => by have := (hP.2.2.2 b hb).2; have := I; omega); have cp := cj.ch V (fun (h : d = f) => by have := a0.lt; omega); have cq := cl.ch V (fun b e (h : b = f) => y b e h); have cr := cf.ch V (fun b e (h : b = f) => by have := aZ b e; have := cd; omega); refine yz 10 <| ys <| qY (fun b => o = some b) [4] (by kernel_rfl) (fun b3 dH G => ?_); have b4 := zu cn G iZ; have ct := co.ch G iZ; have b5 := cp.ch G id; have b6 := cq.ch G iZ; have b7 := cr.ch G iZ; have b8 := cm.ch G id; refine ydC (uL 0 3) [] (fun u hu => (.a (qE hu (b8.cs 0 9) (fun h => y _ h rfl)) .z)) ?_; have cu : d < b3.heap.size := b5.lt; have cv : f < b3.heap.size := b8.lt; have cw := b7.1; rw [List.length_map, Nat.mul_one] at cw; have an := qdv qiz c; rw [am] at an; have P := b6.1; rw [qdu] at P; have aN : ([] ++ (qaF p.utf).map acP).length ≤ 3 := by simp only [List.length_append, List.length_map, List.length_nil]; omega
  refine yH 3 (yC (qd9 (q := o) (al := ([] ++ (qaF p.utf).map acP)) _ b6 b7 (fun b e h => by have := aZ b e; have := ce b h; omega) (by constructor <;> omega)) ?_); rintro _ dI ⟨W, b9, ba, rfl, cx, ao, a9⟩; refine ⟨_, rfl, ?_⟩; have cy : ∀ b, W = some b → w.heap.size ≤ b := fun b e => (ao b e).elim (fun h => s b h) (fun h => by have := zs b4; omega); have cz := zu b4 a9 (fun i hi h => by have := s _ h; omega); have cA := ct.ch a9 (fun b hb h => by have := (hP.2.2.2 b hb).2; have := s _ h; omega); have cB := b5.ch a9 (fun h => x _ h rfl); have cC : ∀ b', W = some b' → ¬ b' = d := fun b' e h => (ao b' e).elim (fun j => (x b' j h)) (fun j => by have := cu; omega); have dJ : ∀ b', W = some b' → ¬ b' = f := fun b' e h => (ao b' e).elim (fun j => (y b' j h)) (fun j => by have := cv; omega); refine qo a9 iZ <| yK 4 (yT [iX p.state, uX k.1.b0, uX k.1.b1, uX k.1.b2, iX k.1.n, .string p.marks, .slice (po.map at0) pn pc, .string p.text, iX p.within] cB fun dK cD ap => ?_); have cE := zu cz ap (fun i hi (h : i = d) => by omega); have cF := cA.ch ap (fun b hb (e : b = d) => by have := (hP.2.2.2 b hb).2; have := a4; omega); have bb := cx.ch ap (fun b e (h : b = d) => cC b e h); refine q9 <| yd [5] [] .z <| yDe (nS ?_); refine qd (yR2 [.agg #[iX p.state, uX k.1.b0, uX k.1.b1, uX k.1.b2, iX k.1.n, .string p.marks, .slice (po.map at0) pn pc, .string p.text, iX p.within], .slice (W.map at0) b9 ba] (.a (cD.cs 0 9) .z) ?_); refine Fed.mk' (p' := (PS.mk p.state ⟨k.1.b0, k.1.b1, k.1.b2, k.1.n⟩ p.marks p.params p.text p.within)) (l := (([] ++ (qaF p.utf).map acP) ++ k.2.map acP)) po pn pc W b9 ba (.inr (fun b h => (hP.2.2.2 b h).2)) rfl (cF.old) (qbE bb ?_ fun b e => ⟨cy b e, bb.ltOf e⟩) (Up.ch cE) ?_
  ·simp only [List.mem_append, List.mem_map, List.not_mem_nil, false_or, List.mem_singleton]; rintro a (⟨_, _, rfl⟩ | ⟨_, _, rfl⟩) <;> rfl
  simp only [qK, atP, C, t, A, E, ↓reduceIte, Int.reduceLT, Int.reduceLE, Int.reduceEq, and_true, true_and, or_true, true_or, or_false, false_or, and_self, List.nil_append, List.append_assoc, am]
 refine yk <| ys <| q8 <| yx 3 <| yc (rE c 27) (fun t => ?_) fun t => ?_
 ·exfalso; omega
 refine ysr <| yq 3 <| yw [28] (rL c 32) (fun A => ?_) fun A => ?_
 ·exfalso; omega
 refine yz 7 <| yc (rE c 127) (fun E => ?_) fun E => ?_
 ·exfalso; omega
 refine qp (nB (nS ?_)); refine ysr <| yp 3 [] (.a (B.cs 1 4) .z) ?_; have cG : f < a1.heap.size := B.lt; have dL : d < a1.heap.size := a2.lt; obtain ⟨m, aq⟩ : ∃ X, qcs p.utf c = X := ⟨_, rfl⟩
 refine yo (yC (qfL aq p.utf c _ ay hp.u hcB) ?_); rintro _ dM ⟨dN, dO, dP, rfl, cH, cI, aa⟩; refine ⟨_, rfl, ?_⟩; have cJ := zu aw aa iZ; have cK := ax.ch aa iZ; have cL := B.ch aa id; have cM := a2.ch aa id; refine yq 8 <| yo (yT [iX p.state, uX m.1.b0, uX m.1.b1, uX m.1.b2, iX m.1.n, .string p.marks, .slice (po.map at0) pn pc, .string p.text, iX p.within] cL fun dQ cN ab => ?_); have cO := zu cJ ab (fun i hi (h : i = f) => by omega); have cP := cK.ch ab (fun b hb (e : b = f) => by have := (hP.2.2.2 b hb).2; have := I; omega); have cQ := cM.ch ab (fun (h : d = f) => by have := a0.lt; omega); have cR := cH.ch ab (fun b e (h : b = f) => by have := cI b e; have := cG; omega); refine yz 10 <| ys <| yDC [4] fun bc dR Y => ?_; have bd := zu cO Y iZ; have cS := cP.ch Y iZ; have bf := cQ.ch Y id; have bg := cR.ch Y iZ; have bh := cN.ch Y id; refine ydC (uL 0 3) [] (fun u hu => (.a (qE hu (bh.cs 0 9) id) .z)) ?_; have cT : d < bc.heap.size := bf.lt; have cU : f < bc.heap.size := bh.lt; have cV := bg.1; rw [List.length_map, Nat.mul_one] at cV; have an := qdv hp.u c; rw [aq] at an; refine yH 3 (yC (qd9 (q := none) (al := []) _ (Own.nil _ _ _) bg (fun b e h => by cases h) (by constructor <;> omega)) ?_); rintro _ dS ⟨Z, bi, bj, rfl, cW, ar, H⟩; refine ⟨_, rfl, ?_⟩; replace H := qC H; have cX : ∀ b, Z = some b → w.heap.size ≤ b := fun b e => (ar b e).elim (fun h => by cases h) (fun h => by have := zs bd; omega); have cY := zu bd H iZ; have cZ := cS.ch H iZ
 have d0 := bf.ch H id; have d1 : ∀ b', Z = some b' → ¬ b' = d := fun b' e h => (ar b' e).elim (fun j => by cases j) (fun j => by have := cT; omega); have dT : ∀ b', Z = some b' → ¬ b' = f := fun b' e h => (ar b' e).elim (fun j => by cases j) (fun j => by have := cU; omega); refine qU H <| yK 4 (yT [iX p.state, uX m.1.b0, uX m.1.b1, uX m.1.b2, iX m.1.n, .string p.marks, .slice (po.map at0) pn pc, .string p.text, iX p.within] d0 fun dU d2 au => ?_); have d3 := zu cY au (fun i hi (h : i = d) => by omega); have d4 := cZ.ch au (fun b hb (e : b = d) => by have := (hP.2.2.2 b hb).2; have := a4; omega); have bk := cW.ch au (fun b e (h : b = d) => d1 b e h); refine q9 <| yd [5] [] .z <| yDe (nS ?_); refine qd (yR2 [.agg #[iX p.state, uX m.1.b0, uX m.1.b1, uX m.1.b2, iX m.1.n, .string p.marks, .slice (po.map at0) pn pc, .string p.text, iX p.within], .slice (Z.map at0) bi bj] (.a (d2.cs 0 9) .z) ?_); refine Fed.mk' (p' := (PS.mk p.state ⟨m.1.b0, m.1.b1, m.1.b2, m.1.n⟩ p.marks p.params p.text p.within)) (l := ([] ++ m.2.map acP)) po pn pc Z bi bj (.inr (fun b h => (hP.2.2.2 b h).2)) rfl (d4.old) (qbE bk ?_ fun b e => ⟨cX b e, bk.ltOf e⟩) (Up.ch d3) ?_
 ·simp only [List.mem_append, List.mem_map, List.not_mem_nil, false_or, List.mem_singleton]; rintro a ⟨_, _, rfl⟩ <;> rfl
 simp only [qK, atP, C, t, A, E, ↓reduceIte, Int.reduceLT, Int.reduceLE, Int.reduceEq, and_true, true_and, or_true, true_or, or_false, false_or, and_self, List.nil_append, List.append_assoc, aq]
theorem qlX (s : Int) : (atP s).state = s := rfl
set_option maxHeartbeats 4000000 in
theorem feed_any {w : World} {po : Option Nat} {pn pc : Nat} {p : PS} (hP : IntsAt w .i64 po pn pc p.params (fun b => po = some b)) (c : Int) (hcB : 0 ≤ c ∧ c ≤ 255) (hU : qbS w) (hp : p.lim) (hn8 : pn ≤ 8) : Calls Tryz.prog 58 [.agg #[iX p.state, uX p.utf.b0, uX p.utf.b1, uX p.utf.b2, iX p.utf.n, .string p.marks, .slice (po.map at0) pn pc, .string p.text, iX p.within], uX c].toArray w fun e w' => Fed w w' e po (qaR p c).1 (qaR p c).2 := by
 refine yA Tryz.func58 rfl <| ysr <| yo (yN [iX p.state, uX p.utf.b0, uX p.utf.b1, uX p.utf.b2, iX p.utf.n, .string p.marks, .slice (po.map at0) pn pc, .string p.text, iX p.within] 55 fun dq v bm dr aj R => ?_); have ds := zn bm (zm w); have ak := zu (zm w) R iZ; have bn := hP.ch R iZ; have bo := qZ R hU id id; refine yo (yN [iX 0, uX 0, uX 0, uX 0, iX 0, oX, nX, oX, iX 0] 55 fun x d bp dt j I => ?_); have C := zn bp ak; have k := zu ak I iZ; have D := bn.ch I iZ; have bq := qZ I bo id id; have g := aj.ch I id; refine yz 3 <| x_scope 0 ([(1, uX c), (2, pX v), (4, pX d), (5, nX)]) (fun u => (p.state = 7 ∧ c ≠ 92) ∧ Blk u v [iX 1, uX 0, uX 0, uX 0, iX 0, oX, nX, oX, iX 0] 55 ∧ Blk u d [iX 0, uX 0, uX 0, uX 0, iX 0, oX, nX, oX, iX 0] 55 ∧ Up w.heap.size w u) rfl ?_ (fun u31 br => ?_)
 ·refine ys <| x_label (nS ?_); refine ys <| q8 <| ysr <| yp 4 [] (.l (g.c 0) .z) <| ye <| yc (rE p.state 0) (fun o => ?_) fun o => ?_
  ·refine ysr <| yp 2 [] (.a (g.cs 0 9) .z) <| yo (yC (qkk D c hcB bq hp) ?_); rintro _ al ⟨S, T, U, am, an, ao, rfl, bs, bt, ap⟩; refine ⟨_, rfl, ?_⟩; have du : v < x.heap.size := g.lt; have aq : d < x.heap.size := j.lt; have bu := zu k ap iZ; have bv := j.ch ap id; have bw : al.heap.size ≤ al.heap.size := Nat.le_refl _; refine yq 5 <| yo (yT [iX (qK p c).1.state, uX (qK p c).1.utf.b0, uX (qK p c).1.utf.b1, uX (qK p c).1.utf.b2, iX (qK p c).1.utf.n, .string (qK p c).1.marks, .slice (S.map at0) T U, .string (qK p c).1.text, iX (qK p c).1.within] bv fun dv bx J => ?_); have bz := zu bu J (fun i hi (h : i = d) => by omega); have bA := bs.ch J (fun b hb (e : b = d) => hb.elim (fun hb => by have := (hP.2.2.2 b hb).2; have := C; omega) (fun hb => by have := aq; omega)); have bB := bt.ch J (fun b hb (e : b = d) => by have := aq; omega); have dw := Nat.le_trans bw (zs J); refine yz 7 <| qd (rB (rS (qab (yR2 [.agg #[iX (qK p c).1.state, uX (qK p c).1.utf.b0, uX (qK p c).1.utf.b1, uX (qK p c).1.utf.b2, iX (qK p c).1.utf.n, .string (qK p c).1.marks, .slice (S.map at0) T U, .string (qK p c).1.text, iX (qK p c).1.within], .slice (am.map at0) an ao] (.a (bx.cs 0 9) .z) ?_)))); have G := zs k; refine Fed.mk2 (p' := (qK p c).1) (l := (qK p c).2) S T U am an ao rfl (bA.mono fun b hb => hb.imp id fun h => ⟨by omega, by omega⟩) (bB.mono fun b h => ⟨⟨by omega, by omega⟩, h.2⟩) (Up.ch bz) ?_; simp only [qaR, qan, o, ↓reduceIte, Int.reduceEq, Int.reduceLE, Int.reduceLT, reduceCtorEq, sA, ne_eq]
  refine ysr <| yp 4 [] (.l (g.c 0) .z) <| ye <| yc (rE p.state 7) (fun q => ?_) fun q => ?_
  ·refine ys <| yx 2 <| yc (rE c 92) (fun f => ?_) fun f => ?_
   ·refine ysr <| yp 3 [] (.a (g.cs 0 9) (.l (g.c 8) .z)) <| yo (yC (qfH D p.within ) ?_); rintro _ ar ⟨V, W, X, au, av, aw, rfl, bC, bD, ax⟩; refine ⟨_, rfl, ?_⟩; have dx : v < x.heap.size := g.lt; have ay : d < x.heap.size := j.lt; have bE := zu k ax iZ; have bF := j.ch ax id; have bG : ar.heap.size ≤ ar.heap.size := Nat.le_refl _; refine yq 6 <| yo (yT [iX (qv p p.within).1.state, uX (qv p p.within).1.utf.b0, uX (qv p p.within).1.utf.b1, uX (qv p p.within).1.utf.b2, iX (qv p p.within).1.utf.n, .string (qv p p.within).1.marks, .slice (V.map at0) W X, .string (qv p p.within).1.text, iX (qv p p.within).1.within] bF fun dy bH K => ?_); have bI := zu bE K (fun i hi (h : i = d) => by omega); have bJ := bC.ch K (fun b hb (e : b = d) => hb.elim (fun hb => by have := (hP.2.2.2 b hb).2; have := C; omega) (fun hb => by have := ay; omega)); have bK := bD.ch K (fun b hb (e : b = d) => by have := ay; omega); have dz := Nat.le_trans bG (zs K); refine yz 8 <| qd (rS (rB (rS (qab (yR2 [.agg #[iX (qv p p.within).1.state, uX (qv p p.within).1.utf.b0, uX (qv p p.within).1.utf.b1, uX (qv p p.within).1.utf.b2, iX (qv p p.within).1.utf.n, .string (qv p p.within).1.marks, .slice (V.map at0) W X, .string (qv p p.within).1.text, iX (qv p p.within).1.within], .slice (au.map at0) av aw] (.a (bH.cs 0 9) .z) ?_))))); have G := zs k; refine Fed.mk2 (p' := (qv p p.within).1) (l := (qv p p.within).2) V W X au av aw rfl (bJ.mono fun b hb => hb.imp id fun h => ⟨by omega, by omega⟩) (bK.mono fun b h => ⟨⟨by omega, by omega⟩, h.2⟩) (Up.ch bI) ?_
    simp only [qaR, qan, o, q, f, ↓reduceIte, Int.reduceEq, Int.reduceLE, Int.reduceLT, reduceCtorEq, sA, ne_eq]
   refine yk <| ysr <| yo (yQ (qa9 1 _) fun dA Y => ?_); have bL := zu k Y iZ; have bM := g.ch Y id; have bN := j.ch Y id; refine yo (yT [iX 1, uX 0, uX 0, uX 0, iX 0, oX, nX, oX, iX 0] bM fun dB bO az => ?_); have bP := zu bL az (fun i hi (h : i = v) => by omega); have bQ := bN.ch az (fun (h : d = v) => by have := aj.lt; omega); refine ye <| qN [1, 2, 4, 5] (f' := [(1, uX c), (2, pX v), (4, pX d), (5, nX)]) ?_; exact x_goto (qkj (gS (qll ⟨⟨q, f⟩, bO, bQ, bP⟩)))
  refine ysr <| yp 4 [] (.l (g.c 0) .z) <| ye <| yc (rM 5 p.state) (fun f => ?_) fun f => ?_
  ·refine ysr <| yp 2 [] (.a (g.cs 0 9) .z) <| yo (yC (qki D c (by have := hp.t; omega)) ?_); rintro _ aA ⟨Z, a0, a1, aB, aC, aD, rfl, bR, bS, aE⟩; refine ⟨_, rfl, ?_⟩; have dC : v < x.heap.size := g.lt; have aF : d < x.heap.size := j.lt; have bT := zu k aE iZ; have bU := j.ch aE id; have bV : aA.heap.size ≤ aA.heap.size := Nat.le_refl _; refine yq 5 <| yo (yT [iX (qJ p c).1.state, uX (qJ p c).1.utf.b0, uX (qJ p c).1.utf.b1, uX (qJ p c).1.utf.b2, iX (qJ p c).1.utf.n, .string (qJ p c).1.marks, .slice (Z.map at0) a0 a1, .string (qJ p c).1.text, iX (qJ p c).1.within] bU fun dD bW L => ?_); have bX := zu bT L (fun i hi (h : i = d) => by omega); have bY := bR.ch L (fun b hb (e : b = d) => hb.elim (fun hb => by have := (hP.2.2.2 b hb).2; have := C; omega) (fun hb => by have := aF; omega)); have bZ := bS.ch L (fun b hb (e : b = d) => by have := aF; omega); have dE := Nat.le_trans bV (zs L); refine yz 7 <| qd (rB (rS (qab (yR2 [.agg #[iX (qJ p c).1.state, uX (qJ p c).1.utf.b0, uX (qJ p c).1.utf.b1, uX (qJ p c).1.utf.b2, iX (qJ p c).1.utf.n, .string (qJ p c).1.marks, .slice (Z.map at0) a0 a1, .string (qJ p c).1.text, iX (qJ p c).1.within], .slice (aB.map at0) aC aD] (.a (bW.cs 0 9) .z) ?_)))); have G := zs k; refine Fed.mk2 (p' := (qJ p c).1) (l := (qJ p c).2) Z a0 a1 aB aC aD rfl (bY.mono fun b hb => hb.imp id fun h => ⟨by omega, by omega⟩) (bZ.mono fun b h => ⟨⟨by omega, by omega⟩, h.2⟩) (Up.ch bX) ?_
   simp only [qaR, qan, o, q, f, ↓reduceIte, Int.reduceEq, Int.reduceLE, Int.reduceLT, reduceCtorEq, sA, ne_eq]
  refine ysr <| yq 3 <| yw [40] (rE c 24) (fun r => ?_) fun r => ?_
  ·refine yz 7 <| yct <| ysr <| yo (yQ (qa9 0 _) fun dF aG => ?_); have c0 := zu k aG iZ; have c1 := j.ch aG id; refine yo (yT [iX 0, uX 0, uX 0, uX 0, iX 0, oX, nX, oX, iX 0] c1 fun dG c2 c3 => ?_); have c4 := zu c0 c3 (fun i hi (h : i = d) => by omega); refine yz 3 <| qd (rB (rS (qab (yR2 [.agg #[iX 0, uX 0, uX 0, uX 0, iX 0, oX, nX, oX, iX 0], nX] (.a (c2.cs 0 9) .z) ?_)))); refine Fed.mk' (p' := (PS.mk 0 ⟨0, 0, 0, 0⟩ ByteArray.empty [] ByteArray.empty 0)) (l := []) none 0 0 none 0 0 (.inl ⟨rfl, rfl, rfl, rfl⟩) rfl (IntsAt.nil _ _ _) (ActsAt.nil _ _) (Up.ch c4) ?_; simp only [qaR, qan, atP, acX, o, q, f, r, ↓reduceIte, Int.reduceEq, Int.reduceLE, Int.reduceLT, reduceCtorEq, sA, ne_eq]
  refine yz 7 <| yc (rE c 26) (fun s => ?_) fun s => ?_
  ·refine ysr <| yo (yQ (qa9 0 _) fun dH aH => ?_); have c5 := zu k aH iZ; have c6 := j.ch aH id; refine yo (yT [iX 0, uX 0, uX 0, uX 0, iX 0, oX, nX, oX, iX 0] c6 fun dI c7 c8 => ?_); have c9 := zu c5 c8 (fun i hi (h : i = d) => by omega); refine yz 3 <| qd (rB (rS (qab (yR2 [.agg #[iX 0, uX 0, uX 0, uX 0, iX 0, oX, nX, oX, iX 0], nX] (.a (c7.cs 0 9) .z) ?_)))); refine Fed.mk' (p' := (PS.mk 0 ⟨0, 0, 0, 0⟩ ByteArray.empty [] ByteArray.empty 0)) (l := []) none 0 0 none 0 0 (.inl ⟨rfl, rfl, rfl, rfl⟩) rfl (IntsAt.nil _ _ _) (ActsAt.nil _ _) (Up.ch c9) ?_; simp only [qaR, qan, atP, acX, o, q, f, r, s, ↓reduceIte, Int.reduceEq, Int.reduceLE, Int.reduceLT, reduceCtorEq, sA, ne_eq]
  refine yx 3 <| yc (rE c 27) (fun y => ?_) fun y => ?_
  ·refine ysr <| yo (yQ (qa9 1 _) fun dJ aI => ?_); have ca := zu k aI iZ; have cb := j.ch aI id; refine yo (yT [iX 1, uX 0, uX 0, uX 0, iX 0, oX, nX, oX, iX 0] cb fun dK cc cd => ?_); have ce := zu ca cd (fun i hi (h : i = d) => by omega); refine yz 3 <| qd (rB (rS (qab (yR2 [.agg #[iX 1, uX 0, uX 0, uX 0, iX 0, oX, nX, oX, iX 0], nX] (.a (cc.cs 0 9) .z) ?_)))); refine Fed.mk' (p' := (PS.mk 1 ⟨0, 0, 0, 0⟩ ByteArray.empty [] ByteArray.empty 0)) (l := []) none 0 0 none 0 0 (.inl ⟨rfl, rfl, rfl, rfl⟩) rfl (IntsAt.nil _ _ _) (ActsAt.nil _ _) (Up.ch ce) ?_; simp only [qaR, qan, atP, acX, o, q, f, r, s, y, ↓reduceIte, Int.reduceEq, Int.reduceLE, Int.reduceLT, reduceCtorEq, sA, ne_eq]
  refine yx 3 <| yc (rL c 32) (fun A => ?_) fun A => ?_
  ·refine ysr <| yp 3 [] (.a (g.cs 0 9) .z) <| yo (yB [iX 1, rX 0, uX c, oX, nX, oX] 115 1 fun dL a2 cf dM cg a3 => ?_); have dN := zn cf k; have ci := zu k a3 iZ; have cj := D.ch a3 iZ; have ck := j.ch a3 id; refine yo (yT [iX p.state, uX p.utf.b0, uX p.utf.b1, uX p.utf.b2, iX p.utf.n, .string p.marks, .slice (po.map at0) pn pc, .string p.text, iX p.within] ck fun dO cl a4 => ?_); have aJ := zu ci a4 (fun i hi (h : i = d) => by omega); have cm := cj.ch a4 (fun b hb (e : b = d) => by have := (hP.2.2.2 b hb).2; have := C; omega); have aK := cg.ch a4 (fun (h : a2 = d) => by have := j.lt; omega); refine yz 6 <| qd (rB (rS (qab (yR2 [.agg #[iX p.state, uX p.utf.b0, uX p.utf.b1, uX p.utf.b2, iX p.utf.n, .string p.marks, .slice (po.map at0) pn pc, .string p.text, iX p.within], .slice (some ⟨a2, 0, none⟩) 1 1] (.a (cl.cs 0 9) .z) ?_)))); refine Fed.mk' (p' := (PS.mk p.state ⟨p.utf.b0, p.utf.b1, p.utf.b2, p.utf.n⟩ p.marks p.params p.text p.within)) (l := [Ac.mk 1 0 c ByteArray.empty [] ByteArray.empty]) po pn pc (some a2) 1 1 (.inr (fun b h => (hP.2.2.2 b h).2)) rfl (cm.old) (ActsAt.one aK ⟨by have := zs aJ; omega, aK.lt⟩ ⟨none, 0, 0, rfl, IntsAt.nil _ _ _⟩) (Up.ch aJ) ?_; simp only [qaR, qan, atP, acX, o, q, f, r, s, y, A, ↓reduceIte, Int.reduceEq, Int.reduceLE, Int.reduceLT, reduceCtorEq, sA, ne_eq]
  refine yx 3 <| yc (rM 127 c) (fun H => ?_) fun H => ?_
  ·refine ysr <| yp 1 [] (.a (g.cs 0 9) .z) <| yo (yT [iX p.state, uX p.utf.b0, uX p.utf.b1, uX p.utf.b2, iX p.utf.n, .string p.marks, .slice (po.map at0) pn pc, .string p.text, iX p.within] j fun dP cn aL => ?_); have co := zu k aL (fun i hi (h : i = d) => by omega); have cp := D.ch aL (fun b hb (e : b = d) => by have := (hP.2.2.2 b hb).2; have := C; omega); refine yz 3 <| qd (rB (rS (qab (yR2 [.agg #[iX p.state, uX p.utf.b0, uX p.utf.b1, uX p.utf.b2, iX p.utf.n, .string p.marks, .slice (po.map at0) pn pc, .string p.text, iX p.within], nX] (.a (cn.cs 0 9) .z) ?_)))); refine Fed.mk' (p' := (PS.mk p.state ⟨p.utf.b0, p.utf.b1, p.utf.b2, p.utf.n⟩ p.marks p.params p.text p.within)) (l := []) po pn pc none 0 0 (.inl ⟨rfl, rfl, rfl, rfl⟩) rfl (cp.old) (ActsAt.nil _ _) (Up.ch co) ?_; simp only [qaR, qan, atP, acX, o, q, f, r, s, y, A, H, ↓reduceIte, Int.reduceEq, Int.reduceLE, Int.reduceLT, reduceCtorEq, sA, ne_eq]
  refine ysr <| yp 4 [] (.l (g.c 0) .z) <| yw [64] (rE p.state 3) (fun M => ?_) fun M => ?_
  ·refine yz 9 <| yct <| ysr <| yp 2 [] (.a (g.cs 0 9) .z) <| yo (yC (qlR D c hcB (by have := hp.m; omega) hn8 hp.b) ?_); rintro _ aM ⟨a5, a6, a7, aN, aO, aP, rfl, cq, cr, aQ⟩; refine ⟨_, rfl, ?_⟩; have dQ : v < x.heap.size := g.lt; have aR : d < x.heap.size := j.lt; have ct := zu k aQ iZ; have cu := j.ch aQ id; have cv : aM.heap.size ≤ aM.heap.size := Nat.le_refl _; refine yq 5 <| yo (yT [iX (qb8 p c).1.state, uX (qb8 p c).1.utf.b0, uX (qb8 p c).1.utf.b1, uX (qb8 p c).1.utf.b2, iX (qb8 p c).1.utf.n, .string (qb8 p c).1.marks, .slice (a5.map at0) a6 a7, .string (qb8 p c).1.text, iX (qb8 p c).1.within] cu fun dR cw N => ?_); have cx := zu ct N (fun i hi (h : i = d) => by omega); have cy := cq.ch N (fun b hb (e : b = d) => hb.elim (fun hb => by have := (hP.2.2.2 b hb).2; have := C; omega) (fun hb => by have := aR; omega)); have cz := cr.ch N (fun b hb (e : b = d) => by have := aR; omega); have dS := Nat.le_trans cv (zs N); refine yz 7 <| qd (rB (rS (qab (yR2 [.agg #[iX (qb8 p c).1.state, uX (qb8 p c).1.utf.b0, uX (qb8 p c).1.utf.b1, uX (qb8 p c).1.utf.b2, iX (qb8 p c).1.utf.n, .string (qb8 p c).1.marks, .slice (a5.map at0) a6 a7, .string (qb8 p c).1.text, iX (qb8 p c).1.within], .slice (aN.map at0) aO aP] (.a (cw.cs 0 9) .z) ?_)))); have G := zs k; refine Fed.mk2 (p' := (qb8 p c).1) (l := (qb8 p c).2) a5 a6 a7 aN aO aP rfl (cy.mono fun b hb => hb.imp id fun h => ⟨by omega, by omega⟩) (cz.mono fun b h => ⟨⟨by omega, by omega⟩, h.2⟩) (Up.ch cx) ?_; simp only [qaR, qan, o, q, f, r, s, y, A, H, M, ↓reduceIte, Int.reduceEq, Int.reduceLE, Int.reduceLT, reduceCtorEq, sA, ne_eq]
  refine yp 9 [] (.l (g.c 0) .z) <| ye <| yc (rE p.state 4) (fun a8 => ?_) fun a8 => ?_
  ·refine ysr <| yp 2 [] (.a (g.cs 0 9) .z) <| yo (yC (qlR D c hcB (by have := hp.m; omega) hn8 hp.b) ?_); rintro _ aS ⟨a9, aa, ab, aT, aU, aV, rfl, cA, cB, aW⟩; refine ⟨_, rfl, ?_⟩; have dT : v < x.heap.size := g.lt; have aX : d < x.heap.size := j.lt; have cC := zu k aW iZ; have cD := j.ch aW id; have cE : aS.heap.size ≤ aS.heap.size := Nat.le_refl _; refine yq 5 <| yo (yT [iX (qb8 p c).1.state, uX (qb8 p c).1.utf.b0, uX (qb8 p c).1.utf.b1, uX (qb8 p c).1.utf.b2, iX (qb8 p c).1.utf.n, .string (qb8 p c).1.marks, .slice (a9.map at0) aa ab, .string (qb8 p c).1.text, iX (qb8 p c).1.within] cD fun dU cF O => ?_); have cG := zu cC O (fun i hi (h : i = d) => by omega); have cH := cA.ch O (fun b hb (e : b = d) => hb.elim (fun hb => by have := (hP.2.2.2 b hb).2; have := C; omega) (fun hb => by have := aX; omega)); have cI := cB.ch O (fun b hb (e : b = d) => by have := aX; omega); have dV := Nat.le_trans cE (zs O); refine yz 7 <| qd (rB (rS (qab (yR2 [.agg #[iX (qb8 p c).1.state, uX (qb8 p c).1.utf.b0, uX (qb8 p c).1.utf.b1, uX (qb8 p c).1.utf.b2, iX (qb8 p c).1.utf.n, .string (qb8 p c).1.marks, .slice (a9.map at0) aa ab, .string (qb8 p c).1.text, iX (qb8 p c).1.within], .slice (aT.map at0) aU aV] (.a (cF.cs 0 9) .z) ?_)))); have G := zs k; refine Fed.mk2 (p' := (qb8 p c).1) (l := (qb8 p c).2) a9 aa ab aT aU aV rfl (cH.mono fun b hb => hb.imp id fun h => ⟨by omega, by omega⟩) (cI.mono fun b h => ⟨⟨by omega, by omega⟩, h.2⟩) (Up.ch cG) ?_; simp only [qaR, qan, o, q, f, r, s, y, A, H, M, a8, ↓reduceIte, Int.reduceEq, Int.reduceLE, Int.reduceLT, reduceCtorEq, sA, ne_eq]
  refine qp (nB (nS ?_)); refine ysr <| yp 2 [] (.a (g.cs 0 9) .z) <| yo (yC (qfI D c ) ?_); rintro _ aY ⟨ac, ad, ae, aZ, b3, b4, rfl, cJ, cK, b5⟩; refine ⟨_, rfl, ?_⟩; have dW : v < x.heap.size := g.lt; have b6 : d < x.heap.size := j.lt; have cL := zu k b5 iZ; have cM := j.ch b5 id; have cN : aY.heap.size ≤ aY.heap.size := Nat.le_refl _; refine yq 5 <| yo (yT [iX (qt p c).1.state, uX (qt p c).1.utf.b0, uX (qt p c).1.utf.b1, uX (qt p c).1.utf.b2, iX (qt p c).1.utf.n, .string (qt p c).1.marks, .slice (ac.map at0) ad ae, .string (qt p c).1.text, iX (qt p c).1.within] cM fun dX cO P => ?_); have cP := zu cL P (fun i hi (h : i = d) => by omega); have cQ := cJ.ch P (fun b hb (e : b = d) => hb.elim (fun hb => by have := (hP.2.2.2 b hb).2; have := C; omega) (fun hb => by have := b6; omega)); have cR := cK.ch P (fun b hb (e : b = d) => by have := b6; omega); have dY := Nat.le_trans cN (zs P); refine yz 7 <| qd (qab (yR2 [.agg #[iX (qt p c).1.state, uX (qt p c).1.utf.b0, uX (qt p c).1.utf.b1, uX (qt p c).1.utf.b2, iX (qt p c).1.utf.n, .string (qt p c).1.marks, .slice (ac.map at0) ad ae, .string (qt p c).1.text, iX (qt p c).1.within], .slice (aZ.map at0) b3 b4] (.a (cO.cs 0 9) .z) ?_)); have G := zs k; refine Fed.mk2 (p' := (qt p c).1) (l := (qt p c).2) ac ad ae aZ b3 b4 rfl (cQ.mono fun b hb => hb.imp id fun h => ⟨by omega, by omega⟩) (cR.mono fun b h => ⟨⟨by omega, by omega⟩, h.2⟩) (Up.ch cP) ?_
  simp only [qaR, qan, o, q, f, r, s, y, A, H, M, a8, ↓reduceIte, Int.reduceEq, Int.reduceLE, Int.reduceLT, reduceCtorEq, sA, ne_eq]
 obtain ⟨b7, cS⟩ := br; obtain ⟨B, E, F⟩ := cS; have o : p.state = 7 := b7.1; have q : c ≠ 92 := b7.2; refine ys <| yk <| ys <| q8 <| ysr <| yp 4 [] (.l (B.c 0) .z) <| ye <| ycf <| ysr <| yp 4 [] (.l (B.c 0) .z) <| ye <| ycf <| ysr <| yp 4 [] (.l (B.c 0) .z) <| ye <| ycf <| ysr <| yq 3 <| yw [40] (rE c 24) (fun f => ?_) fun f => ?_
 ·refine yz 7 <| yct <| ysr <| yo (yQ (qa9 0 _) fun dZ b8 => ?_); have cT := zu F b8 iZ; have cU := E.ch b8 id; refine yo (yT [iX 0, uX 0, uX 0, uX 0, iX 0, oX, nX, oX, iX 0] cU fun e0 cV cW => ?_); have cX := zu cT cW (fun i hi (h : i = d) => by omega); refine yz 3 <| qd (rB (rS (qab (yR2 [.agg #[iX 0, uX 0, uX 0, uX 0, iX 0, oX, nX, oX, iX 0], nX] (.a (cV.cs 0 9) .z) ?_)))); refine Fed.mk' (p' := (PS.mk 0 ⟨0, 0, 0, 0⟩ ByteArray.empty [] ByteArray.empty 0)) (l := []) none 0 0 none 0 0 (.inl ⟨rfl, rfl, rfl, rfl⟩) rfl (IntsAt.nil _ _ _) (ActsAt.nil _ _) (Up.ch cX) ?_; simp only [qaR, qan, atP, acX, o, q, f, ↓reduceIte, Int.reduceEq, Int.reduceLE, Int.reduceLT, reduceCtorEq, sA, ne_eq]
 refine yz 7 <| yc (rE c 26) (fun r => ?_) fun r => ?_
 ·refine ysr <| yo (yQ (qa9 0 _) fun e1 b9 => ?_); have cY := zu F b9 iZ; have cZ := E.ch b9 id; refine yo (yT [iX 0, uX 0, uX 0, uX 0, iX 0, oX, nX, oX, iX 0] cZ fun e2 d0 d1 => ?_); have d2 := zu cY d1 (fun i hi (h : i = d) => by omega); refine yz 3 <| qd (rB (rS (qab (yR2 [.agg #[iX 0, uX 0, uX 0, uX 0, iX 0, oX, nX, oX, iX 0], nX] (.a (d0.cs 0 9) .z) ?_)))); refine Fed.mk' (p' := (PS.mk 0 ⟨0, 0, 0, 0⟩ ByteArray.empty [] ByteArray.empty 0)) (l := []) none 0 0 none 0 0 (.inl ⟨rfl, rfl, rfl, rfl⟩) rfl (IntsAt.nil _ _ _) (ActsAt.nil _ _) (Up.ch d2) ?_; simp only [qaR, qan, atP, acX, o, q, f, r, ↓reduceIte, Int.reduceEq, Int.reduceLE, Int.reduceLT, reduceCtorEq, sA, ne_eq]
 refine yx 3 <| yc (rE c 27) (fun s => ?_) fun s => ?_
 ·refine ysr <| yo (yQ (qa9 1 _) fun e3 ba => ?_); have d3 := zu F ba iZ; have d4 := E.ch ba id; refine yo (yT [iX 1, uX 0, uX 0, uX 0, iX 0, oX, nX, oX, iX 0] d4 fun e4 d5 d6 => ?_); have d7 := zu d3 d6 (fun i hi (h : i = d) => by omega); refine yz 3 <| qd (rB (rS (qab (yR2 [.agg #[iX 1, uX 0, uX 0, uX 0, iX 0, oX, nX, oX, iX 0], nX] (.a (d5.cs 0 9) .z) ?_)))); refine Fed.mk' (p' := (PS.mk 1 ⟨0, 0, 0, 0⟩ ByteArray.empty [] ByteArray.empty 0)) (l := []) none 0 0 none 0 0 (.inl ⟨rfl, rfl, rfl, rfl⟩) rfl (IntsAt.nil _ _ _) (ActsAt.nil _ _) (Up.ch d7) ?_; simp only [qaR, qan, atP, acX, o, q, f, r, s, ↓reduceIte, Int.reduceEq, Int.reduceLE, Int.reduceLT, reduceCtorEq, sA, ne_eq]
 refine yx 3 <| yc (rL c 32) (fun y => ?_) fun y => ?_
 ·refine ysr <| yp 3 [] (.a (B.cs 0 9) .z) <| yo (yB [iX 1, rX 0, uX c, oX, nX, oX] 115 1 fun e5 af d8 e6 d9 bb => ?_); have e7 := zn d8 F; have da := zu F bb iZ; have db := E.ch bb id; refine yo (yT [iX 1, uX 0, uX 0, uX 0, iX 0, oX, nX, oX, iX 0] db fun e8 dc bc => ?_); have bd := zu da bc (fun i hi (h : i = d) => by omega); have bf := d9.ch bc (fun (h : af = d) => by have := E.lt; omega); refine yz 6 <| qd (rB (rS (qab (yR2 [.agg #[iX 1, uX 0, uX 0, uX 0, iX 0, oX, nX, oX, iX 0], .slice (some ⟨af, 0, none⟩) 1 1] (.a (dc.cs 0 9) .z) ?_)))); refine Fed.mk' (p' := (PS.mk 1 ⟨0, 0, 0, 0⟩ ByteArray.empty [] ByteArray.empty 0)) (l := [Ac.mk 1 0 c ByteArray.empty [] ByteArray.empty]) none 0 0 (some af) 1 1 (.inr (fun b h => by cases h)) rfl (IntsAt.nil _ _ _) (ActsAt.one bf ⟨by have := zs bd; omega, bf.lt⟩ ⟨none, 0, 0, rfl, IntsAt.nil _ _ _⟩) (Up.ch bd) ?_; simp only [qaR, qan, atP, acX, o, q, f, r, s, y, ↓reduceIte, Int.reduceEq, Int.reduceLE, Int.reduceLT, reduceCtorEq, sA, ne_eq]
 refine yx 3 <| yc (rM 127 c) (fun A => ?_) fun A => ?_
 ·refine ysr <| yp 1 [] (.a (B.cs 0 9) .z) <| yo (yT [iX 1, uX 0, uX 0, uX 0, iX 0, oX, nX, oX, iX 0] E fun e9 dd de => ?_); have df := zu F de (fun i hi (h : i = d) => by omega); refine yz 3 <| qd (rB (rS (qab (yR2 [.agg #[iX 1, uX 0, uX 0, uX 0, iX 0, oX, nX, oX, iX 0], nX] (.a (dd.cs 0 9) .z) ?_)))); refine Fed.mk' (p' := (PS.mk 1 ⟨0, 0, 0, 0⟩ ByteArray.empty [] ByteArray.empty 0)) (l := []) none 0 0 none 0 0 (.inl ⟨rfl, rfl, rfl, rfl⟩) rfl (IntsAt.nil _ _ _) (ActsAt.nil _ _) (Up.ch df) ?_; simp only [qaR, qan, atP, acX, o, q, f, r, s, y, A, ↓reduceIte, Int.reduceEq, Int.reduceLE, Int.reduceLT, reduceCtorEq, sA, ne_eq]
 refine ysr <| yp 9 [] (.l (B.c 0) (.l (B.c 0) .z)) <| ye <| ycf <| qp (nB (nS ?_)); refine ysr <| yp 2 [] (.a (B.cs 0 9) .z) <| yo (yC (qfI (p := (atP 1)) (IntsAt.nil u31 .i64 _) c ) ?_); rintro _ bg ⟨ag, ah, ai, bh, bi, bj, rfl, dg, dh, bk⟩; refine ⟨_, rfl, ?_⟩; have ea : v < u31.heap.size := B.lt; have bl : d < u31.heap.size := E.lt; have di := zu F bk iZ; have dj := E.ch bk id; have dk : bg.heap.size ≤ bg.heap.size := Nat.le_refl _; refine yq 5 <| yo (yT [iX (qt (atP 1) c).1.state, uX (qt (atP 1) c).1.utf.b0, uX (qt (atP 1) c).1.utf.b1, uX (qt (atP 1) c).1.utf.b2, iX (qt (atP 1) c).1.utf.n, .string (qt (atP 1) c).1.marks, .slice (ag.map at0) ah ai, .string (qt (atP 1) c).1.text, iX (qt (atP 1) c).1.within] dj fun eb dl Q => ?_); have dm := zu di Q (fun i hi (h : i = d) => by omega); have dn := dg.ch Q (fun b hb (e : b = d) => hb.elim (fun hb => by cases hb) (fun hb => by have := bl; omega)); have dp := dh.ch Q (fun b hb (e : b = d) => by have := bl; omega); have ec := Nat.le_trans dk (zs Q); refine yz 7 <| qd (qab (yR2 [.agg #[iX (qt (atP 1) c).1.state, uX (qt (atP 1) c).1.utf.b0, uX (qt (atP 1) c).1.utf.b1, uX (qt (atP 1) c).1.utf.b2, iX (qt (atP 1) c).1.utf.n, .string (qt (atP 1) c).1.marks, .slice (ag.map at0) ah ai, .string (qt (atP 1) c).1.text, iX (qt (atP 1) c).1.within], .slice (bh.map at0) bi bj] (.a (dl.cs 0 9) .z) ?_)); have G := zs F; refine Fed.mk2 (p' := (qt (atP 1) c).1) (l := (qt (atP 1) c).2) ag ah ai bh bi bj rfl (dn.mono fun b hb => hb.imp (fun h => by cases h) fun h => ⟨by omega, by omega⟩) (dp.mono fun b h => ⟨⟨by omega, by omega⟩, h.2⟩) (Up.ch dm) ?_
 simp only [qaR, qan, qlX, o, q, f, r, s, y, A, ↓reduceIte, Int.reduceEq, Int.reduceLE, Int.reduceLT, reduceCtorEq, sA, ne_eq]
def p10 (i : Nat) : Int := if i = 0 then 1 else if i = 1 then 10 else 100
def ql4 (w : World) : Prop := ∀ i, i < 3 → w.cell? ⟨4, i, none⟩ = some (.int .u64 (p10 i))
theorem qeQ {w w' : World} {B : Nat → Prop} (h : Ch B w w') (hT : ql4 w) (h0 : ¬ B 4) : ql4 w' := fun j hj => qg h (hT j hj) h0
def len8S : ByteArray := ⟨#[0, 1, 2, 2, 3, 3, 3, 3, 4, 4, 4, 4, 4, 4, 4, 4, 5, 5, 5, 5, 5, 5, 5, 5, 5, 5, 5, 5, 5, 5, 5, 5, 6, 6, 6, 6, 6, 6, 6, 6, 6, 6, 6, 6, 6, 6, 6, 6, 6, 6, 6, 6, 6, 6, 6, 6, 6, 6, 6, 6, 6, 6, 6, 6, 7, 7, 7, 7, 7, 7, 7, 7, 7, 7, 7, 7, 7, 7, 7, 7, 7, 7, 7, 7, 7, 7, 7, 7, 7, 7, 7, 7, 7, 7, 7, 7, 7, 7, 7, 7, 7, 7, 7, 7, 7, 7, 7, 7, 7, 7, 7, 7, 7, 7, 7, 7, 7, 7, 7, 7, 7, 7, 7, 7, 7, 7, 7, 7, 8, 8, 8, 8, 8, 8, 8, 8, 8, 8, 8, 8, 8, 8, 8, 8, 8, 8, 8, 8, 8, 8, 8, 8, 8, 8, 8, 8, 8, 8, 8, 8, 8, 8, 8, 8, 8, 8, 8, 8, 8, 8, 8, 8, 8, 8, 8, 8, 8, 8, 8, 8, 8, 8, 8, 8, 8, 8, 8, 8, 8, 8, 8, 8, 8, 8, 8, 8, 8, 8, 8, 8, 8, 8, 8, 8, 8, 8, 8, 8, 8, 8, 8, 8, 8, 8, 8, 8, 8, 8, 8, 8, 8, 8, 8, 8, 8, 8, 8, 8, 8, 8, 8, 8, 8, 8, 8, 8, 8, 8, 8, 8, 8, 8, 8, 8, 8, 8, 8, 8, 8, 8, 8, 8, 8, 8, 8, 8]⟩
def smallsS : ByteArray := ⟨#[48, 48, 48, 49, 48, 50, 48, 51, 48, 52, 48, 53, 48, 54, 48, 55, 48, 56, 48, 57, 49, 48, 49, 49, 49, 50, 49, 51, 49, 52, 49, 53, 49, 54, 49, 55, 49, 56, 49, 57, 50, 48, 50, 49, 50, 50, 50, 51, 50, 52, 50, 53, 50, 54, 50, 55, 50, 56, 50, 57, 51, 48, 51, 49, 51, 50, 51, 51, 51, 52, 51, 53, 51, 54, 51, 55, 51, 56, 51, 57, 52, 48, 52, 49, 52, 50, 52, 51, 52, 52, 52, 53, 52, 54, 52, 55, 52, 56, 52, 57, 53, 48, 53, 49, 53, 50, 53, 51, 53, 52, 53, 53, 53, 54, 53, 55, 53, 56, 53, 57, 54, 48, 54, 49, 54, 50, 54, 51, 54, 52, 54, 53, 54, 54, 54, 55, 54, 56, 54, 57, 55, 48, 55, 49, 55, 50, 55, 51, 55, 52, 55, 53, 55, 54, 55, 55, 55, 56, 55, 57, 56, 48, 56, 49, 56, 50, 56, 51, 56, 52, 56, 53, 56, 54, 56, 55, 56, 56, 56, 57, 57, 48, 57, 49, 57, 50, 57, 51, 57, 52, 57, 53, 57, 54, 57, 55, 57, 56, 57, 57]⟩
def digS : ByteArray := ⟨#[48, 49, 50, 51, 52, 53, 54, 55, 56, 57, 97, 98, 99, 100, 101, 102, 103, 104, 105, 106, 107, 108, 109, 110, 111, 112, 113, 114, 115, 116, 117, 118, 119, 120, 121, 122]⟩
def qee (u : Int) : ByteArray := if u < 10 then digS.extract u.toNat (u + 1).toNat else smallsS.extract (u * 2).toNat (u * 2 + 2).toNat
theorem p_cell {w : World} (h : ql4 w) (x : Int) (h0 : 0 ≤ x) (h1 : x ≤ 2) : w.cell? ⟨4, 0 + x.toNat * 1, none⟩ = some (.int .u64 (p10 x.toNat)) := by
 rw [Nat.zero_add, Nat.mul_one]; exact h _ (by omega)
abbrev d10 (u : Int) : Int := Int.fdiv ((0 + bt len8S u) * 78913) (2 ^ min (18 : Int).toNat (IntKind.bits .i64))
theorem d10_bd : ∀ k, k < 100 → 1 ≤ k → (0 ≤ d10 (k : Nat) ∧ d10 (k : Nat) ≤ 2) ∧ d10 (k : Nat) + (if decide (p10 (d10 (k : Nat)).toNat ≤ ((k : Nat) : Int)) = true then 1 else 0) = (if k < 10 then 1 else 2) := by decide +kernel
set_option maxRecDepth 100000 in
set_option maxHeartbeats 4000000 in
theorem qlY (u : Int) (w : World) (h0 : 0 ≤ u) (h1 : u ≤ 255) : Calls Tryz.prog 140 [.int .u64 u].toArray w fun e w' => e = .returned (iX (0 + bt len8S u)) ∧ Ch (fun _ => False) w w' := by
 have d := qci len8S u; have f : len8S.size = 256 := by kernel_rfl
 have g := h1; have h := h0; refine yA Tryz.func140 rfl <| yx 1 <| ys <| yx 2 <| yc (rM 4294967296 u) (fun a => ?_) fun a => ?_
 ·exfalso; omega
 refine yk <| ys <| yx 2 <| yc (rM 65536 u) (fun b => ?_) fun b => ?_
 ·exfalso; omega
 refine yk <| ys <| yx 2 <| yc (rM 256 u) (fun c => ?_) fun c => ?_
 ·exfalso; omega
 refine yk <| ysr <| yp 7 [2] (.p (q := InR .u8 u) (in8 (by omega) (by omega)) (.i u ((len8S).size) (.q6 (bt len8S u) (.q6 (0 + (bt len8S u)) .z)))) <| ye <| qd (yR1 (iX (0 + (bt len8S u))) ?_); exact ⟨rfl, Up.ch (zm w)⟩
set_option maxHeartbeats 4000000 in
theorem qkl (u : Int) (w : World) (h0 : 0 ≤ u) (h1 : u ≤ 1000) : Calls Tryz.prog 139 [iX u].toArray w fun e w' => e = .returned (iX (Int.fdiv (u * 78913) (2 ^ min (18 : Int).toNat (IntKind.bits .i64)))) ∧ Ch (fun _ => False) w w' := by
 refine yA Tryz.func139 rfl <| yx 1 <| ysr <| yp 4 [] (.q6 (u * 78913) (.p (q := 0 ≤ (18 : Int)) (by omega) .z)) <| ye <| qd (yR1 (iX (Int.fdiv (u * 78913) (2 ^ min (18 : Int).toNat (IntKind.bits .i64)))) ?_); exact ⟨rfl, Up.ch (zm w)⟩
set_option maxHeartbeats 4000000 in
theorem qlZ (b : Bool) (w : World) : Calls Tryz.prog 141 [.bool b].toArray w fun e w' => e = .returned (iX (if b = true then 1 else 0)) ∧ Ch (fun _ => False) w w' := by
 refine yA Tryz.func141 rfl <| yx 1 <| ys <| yx 1 <| yc (rY b) (fun a => ?_) fun a => ?_
 ·refine yx 1 <| qd (rS (yR1 (iX 1) ?_)); exact ⟨by rw [a]; rfl, Up.ch (zm w)⟩
 refine yk <| yx 1 <| qd (yR1 (iX 0) ?_); exact ⟨by rw [a]; rfl, Up.ch (zm w)⟩
set_option maxRecDepth 100000 in
set_option maxHeartbeats 4000000 in
theorem nd_any (u : Int) (w : World) (hp : ql4 w) (h0 : 1 ≤ u) (h1 : u ≤ 99) : Calls Tryz.prog 136 [.int .u64 u].toArray w fun e w' => e = .returned (iX (if u < 10 then 1 else 2)) ∧ Ch (fun _ => False) w w' := by
 have r := qci len8S u; obtain ⟨k, d, hk⟩ : ∃ k : Nat, u = (k : Int) ∧ k < 100 := ⟨u.toNat, by omega, by omega⟩
 have a := d10_bd k hk (by omega); rw [← d] at a; obtain ⟨⟨s, t⟩, f⟩ := a; refine yA Tryz.func136 rfl <| yx 1 <| ysr <| yq 1 <| yo (yQ (qlY u _ (by omega) (by omega)) fun v b => ?_); have g := zu (zm w) b iZ; have j := qeQ b hp id; refine yo (yQ (qkl (0 + bt len8S u) _ (by omega) (by omega)) fun x c => ?_); have m := zu g c iZ; have n := qeQ c j id; refine yz 4 <| ysr <| yp 6 [] (.i (d10 u) (20) (.l (o := (0 + ((d10 u)).toNat * 1)) (p_cell n ((d10 u)) (by omega) (by omega)) .z)) <| yo (yQ (qlZ (decide ((p10 ((d10 u) : Int).toNat) ≤ u)) _) fun y p => ?_); have q := zu m p iZ; refine yp 9 [] (.q6 ((d10 u) + (if (decide ((p10 ((d10 u) : Int).toNat) ≤ u)) = true then 1 else 0)) .z) <| ye <| qd (yR1 (iX ((d10 u) + (if (decide ((p10 ((d10 u) : Int).toNat) ≤ u)) = true then 1 else 0))) ?_); refine ⟨congrArg Ending.returned (congrArg (Value.int .i64) ?_), Up.ch q⟩; rw [show (if u < 10 then (1 : Int) else 2) = if k < 10 then 1 else 2 by by_cases h : k < 10 <;> simp [h] <;> omega]; exact f
set_option maxRecDepth 100000 in
set_option maxHeartbeats 4000000 in
theorem qm0 (u : Int) (w : World) (h0 : 0 ≤ u) (h1 : u ≤ 99) : Calls Tryz.prog 135 [iX u].toArray w fun e w' => e = .returned (.string (qee u)) ∧ Ch (fun _ => False) w w' := by
 have b : smallsS.size = 200 := by kernel_rfl
 have c : digS.size = 36 := by kernel_rfl
 refine yA Tryz.func135 rfl <| yx 1 <| ys <| yx 2 <| yc (rL u 10) (fun a => ?_) fun a => ?_
 ·refine ysr <| yp 5 [] (.q6 (u + 1) (.j (u + 1) ((digS).size) (.j u (((u + 1) : Int).toNat) .z))) <| ye <| qd (rS (yR1 (.string ((digS).extract (u : Int).toNat ((u + 1) : Int).toNat)) ?_)); refine ⟨congrArg Ending.returned (congrArg Value.string ?_), Up.ch (zm w)⟩; simp only [qee, a, ↓reduceIte]
 refine yk <| ysr <| yp 7 [] (.q6 (u * 2) (.q6 (u * 2) (.q6 ((u * 2) + 2) (.j ((u * 2) + 2) ((smallsS).size) (.j (u * 2) ((((u * 2) + 2) : Int).toNat) .z))))) <| ye <| qd (yR1 (.string ((smallsS).extract ((u * 2) : Int).toNat (((u * 2) + 2) : Int).toNat)) ?_); refine ⟨congrArg Ending.returned (congrArg Value.string ?_), Up.ch (zm w)⟩; simp only [qee, a, ↓reduceIte]
theorem nd1_any (x : Int) (w : World) (hp : ql4 w) (h0 : 1 ≤ x) (h1 : x ≤ 9) : Calls Tryz.prog 136 [.int .u64 x].toArray w fun e w' => e = .returned (iX 1) ∧ Ch (fun _ => False) w w' :=
  (nd_any x w hp h0 (by omega)).mono fun e w' ⟨h, h2⟩ => ⟨h.trans (by rw [if_pos (by omega)]), h2⟩
theorem nd2_any (x : Int) (w : World) (hp : ql4 w) (h0 : 10 ≤ x) (h1 : x ≤ 99) : Calls Tryz.prog 136 [.int .u64 x].toArray w fun e w' => e = .returned (iX 2) ∧ Ch (fun _ => False) w w' :=
  (nd_any x w hp (by omega) h1).mono fun e w' ⟨h, h2⟩ => ⟨h.trans (by rw [if_neg (by omega)]), h2⟩
set_option maxRecDepth 100000 in
set_option maxHeartbeats 4000000 in
theorem fb1_any (b : Nat) (x : Int) (w : World) (h0 : 1 ≤ x) (h1 : x ≤ 9) (hb : Blk w b [uX 0, uX 0, uX 0, uX 0, uX 0, uX 0, uX 0, uX 0, uX 0, uX 0, uX 0, uX 0, uX 0, uX 0, uX 0, uX 0, uX 0, uX 0, uX 0, uX 0, uX 0, uX 0, uX 0, uX 0] 181) : Calls Tryz.prog 137 [.slice (some ⟨b, 1, none⟩) 1 23, .int .u64 x].toArray w fun e w' => e = .returned (.tuple #[]) ∧ Blk w' b [uX 0, uX (48 + x), uX 0, uX 0, uX 0, uX 0, uX 0, uX 0, uX 0, uX 0, uX 0, uX 0, uX 0, uX 0, uX 0, uX 0, uX 0, uX 0, uX 0, uX 0, uX 0, uX 0, uX 0, uX 0] 181 ∧ Ch (· = b) w w' := by
 have l : smallsS.size = 200 := by kernel_rfl
 refine yA Tryz.func137 rfl <| yx 3 <| ys <| q8 <| qN [0, 1, 4] (f' := [(0, .slice (some ⟨b, 1, none⟩) 1 23), (1, .int .u64 x), (4, iX 1)]) <| qw (σ := Nat) (fun k => [(0, .slice (some ⟨b, 1, none⟩) 1 23), (1, .int .u64 x), (4, iX 1)]) (fun k v => Blk v b [uX 0, uX 0, uX 0, uX 0, uX 0, uX 0, uX 0, uX 0, uX 0, uX 0, uX 0, uX 0, uX 0, uX 0, uX 0, uX 0, uX 0, uX 0, uX 0, uX 0, uX 0, uX 0, uX 0, uX 0] 181 ∧ Ch (fun _ => False) w v) (fun k => k) 0 rfl ?_ ?_
 ·exact ⟨hb, Ch.refl _ _⟩
 intro k m a n o; obtain ⟨c, d⟩ := a; have f := zt (Ch.refl (· = b) w) d eZ; refine ys <| yx 2 <| ycf <| qk (eS (qf (qe (nS ?_)))); refine ysr <| yp 3 [1] (.p (q := InR .u32 x) (qfw (by omega) (by omega)) .z) <| ye <| ys <| yx 2 <| ycf <| yk <| ys <| yx 2 <| ycf <| yk <| yx 2 <| yct <| q7 <| yp 5 [2, 3] (.p (q := InR .u32 (48 + x)) (qfw (by omega) (by omega)) (.p (q := InR .u8 (48 + x)) (in8 (by omega) (by omega)) (.i 0 (1) .z))) <| yo (yT [uX 0, uX (48 + x), uX 0, uX 0, uX 0, uX 0, uX 0, uX 0, uX 0, uX 0, uX 0, uX 0, uX 0, uX 0, uX 0, uX 0, uX 0, uX 0, uX 0, uX 0, uX 0, uX 0, uX 0, uX 0] c fun r g h => ?_); have j := zt f h iZ; refine yE (qM ?_); exact ⟨rfl, g, j⟩
set_option maxRecDepth 100000 in
set_option maxHeartbeats 4000000 in
theorem fmt1_any (n : Int) (w : World) (hp : ql4 w) (h0 : 1 ≤ -n) (h1 : -n ≤ 9) : Calls Tryz.prog 134 [iX n, iX 10].toArray w fun e w' => e = .returned (.string (qq [45, 48 + (-n)])) ∧ Ch (fun _ => False) w w' := by
 have hx : (IntKind.wrap .u64 (0 - (IntKind.wrap .u64 n))) = -n := by simp [IntKind.wrap, IntKind.bits, IntKind.signed]; omega
 refine yA Tryz.func134 rfl <| yx 1 <| ys <| yx 2 <| yct <| ys <| ysr <| yq 3 <| yw [14] (rM 0 n) (fun d => ?_) fun d => ?_
 ·exfalso; omega
 refine yz 6 <| ycf <| yk <| ysr <| yo (yN [uX 0, uX 0, uX 0, uX 0, uX 0, uX 0, uX 0, uX 0, uX 0, uX 0, uX 0, uX 0, uX 0, uX 0, uX 0, uX 0, uX 0, uX 0, uX 0, uX 0, uX 0, uX 0, uX 0, uX 0] 181 fun C a f D g b => ?_); have E := zn f (zm w); have k := zu (zm w) b iZ; have l := qeQ b hp id; refine ye <| yx 3 <| ys <| yx 2 <| yc (rL n 0) (fun m => ?_) fun m => ?_
 ·refine q7 <| yz 3 <| ysr <| yq 1 <| yo (yQ (nd1_any (IntKind.wrap .u64 (0 - (IntKind.wrap .u64 n))) _ l (by omega) (by omega)) fun F c => ?_); have o := zu k c iZ; have s := g.ch c id; refine yz 3 <| ysr <| yp 4 [2] (.q6 2 (.j 2 (24) (.j 1 (2) (.p (q := 1 < 24) (by omega) .z)))) <| yo (yQ (fb1_any a (IntKind.wrap .u64 (0 - (IntKind.wrap .u64 n))) _ (by omega) (by omega) s) ?_); rintro G ⟨t, u⟩; have v := zu o u (fun i hi (h : i = a) => by omega); refine ye <| ys <| yx 2 <| yc (rL n 0) (fun x => ?_) fun x => ?_
  ·refine ysr <| yp 1 [] (.i 0 (24) .z) <| yo (yT [uX 45, uX (48 + (IntKind.wrap .u64 (0 - (IntKind.wrap .u64 n)))), uX 0, uX 0, uX 0, uX 0, uX 0, uX 0, uX 0, uX 0, uX 0, uX 0, uX 0, uX 0, uX 0, uX 0, uX 0, uX 0, uX 0, uX 0, uX 0, uX 0, uX 0, uX 0] t fun H y A => ?_); have B := zu v A (fun i hi (h : i = a) => by omega); refine ye <| ysr <| yp 3 [] (.q6 2 (.j 2 (24) .z)) <| yo (qbQ (some ⟨a, 0, none⟩) (2 : Int).toNat 24 [45, (48 + (IntKind.wrap .u64 (0 - (IntKind.wrap .u64 n))))] (some 39) (by kernel_rfl) (Rd.pre (ys := [uX 45, uX (48 + (IntKind.wrap .u64 (0 - (IntKind.wrap .u64 n))))]) (r := [uX 0, uX 0, uX 0, uX 0, uX 0, uX 0, uX 0, uX 0, uX 0, uX 0, uX 0, uX 0, uX 0, uX 0, uX 0, uX 0, uX 0, uX 0, uX 0, uX 0, uX 0, uX 0]) y) rfl ?_); refine yz 5 <| qd (rS (rS (yR1 (.string (qq [45, (48 + (IntKind.wrap .u64 (0 - (IntKind.wrap .u64 n))))])) ?_))); refine ⟨?_, Up.ch B⟩; rw [hx]
  exfalso; omega
 exfalso; omega
set_option maxRecDepth 100000 in
set_option maxHeartbeats 4000000 in
theorem fb2_any (b : Nat) (x : Int) (w : World) (h0 : 10 ≤ x) (h1 : x ≤ 99) (hb : Blk w b [uX 0, uX 0, uX 0, uX 0, uX 0, uX 0, uX 0, uX 0, uX 0, uX 0, uX 0, uX 0, uX 0, uX 0, uX 0, uX 0, uX 0, uX 0, uX 0, uX 0, uX 0, uX 0, uX 0, uX 0] 181) : Calls Tryz.prog 137 [.slice (some ⟨b, 1, none⟩) 2 23, .int .u64 x].toArray w fun e w' => e = .returned (.tuple #[]) ∧ Blk w' b [uX 0, uX (bt smallsS ((x % 100) * 2)), uX (bt smallsS (((x % 100) * 2) + 1)), uX 0, uX 0, uX 0, uX 0, uX 0, uX 0, uX 0, uX 0, uX 0, uX 0, uX 0, uX 0, uX 0, uX 0, uX 0, uX 0, uX 0, uX 0, uX 0, uX 0, uX 0] 181 ∧ Ch (· = b) w w' := by
 have t : smallsS.size = 200 := by kernel_rfl
 refine yA Tryz.func137 rfl <| yx 3 <| ys <| q8 <| qN [0, 1, 4] (f' := [(0, .slice (some ⟨b, 1, none⟩) 2 23), (1, .int .u64 x), (4, iX 2)]) <| qw (σ := Nat) (fun k => [(0, .slice (some ⟨b, 1, none⟩) 2 23), (1, .int .u64 x), (4, iX 2)]) (fun k v => Blk v b [uX 0, uX 0, uX 0, uX 0, uX 0, uX 0, uX 0, uX 0, uX 0, uX 0, uX 0, uX 0, uX 0, uX 0, uX 0, uX 0, uX 0, uX 0, uX 0, uX 0, uX 0, uX 0, uX 0, uX 0] 181 ∧ Ch (fun _ => False) w v) (fun k => k) 0 rfl ?_ ?_
 ·exact ⟨hb, Ch.refl _ _⟩
 intro k u c y A; obtain ⟨d, f⟩ := c; have g := zt (Ch.refl (· = b) w) f eZ; refine ys <| yx 2 <| ycf <| qk (eS (qf (qe (nS ?_)))); refine ysr <| yp 3 [1] (.p (q := InR .u32 x) (qfw (by omega) (by omega)) .z) <| ye <| ys <| yx 2 <| ycf <| yk <| ys <| yx 2 <| yct <| ysr ?_; refine yp 4 [2] (.p (q := 0 ≤ (x : Int) ∧ 0 < (100 : Int)) (by constructor <;> omega) (.p (q := InR .u32 ((x % 100) * 2)) (qfw (by omega) (by omega)) .z)) ?_; refine ye <| ysr ?_; refine yp 3 [] (.p (q := 0 ≤ (x : Int) ∧ 0 < (100 : Int)) (by constructor <;> omega) (.p (q := InR .u32 (x / 100)) (qfw (by omega) (by omega)) .z)) ?_; refine ye <| ys <| yD [12, 14] fun B C a => ?_; have h := zt g a eZ; have j := d.ch a id; refine ydT (uL 0 12) [7] rfl (fun _ => (.q6 1 (.q6 0 (.p (q := InR .u32 (((x % 100) * 2) + 1)) (qfw (by omega) (by omega)) (.i (((x % 100) * 2) + 1) ((smallsS).size) (.i ((x % 100) * 2) ((smallsS).size) (.i 1 (2) .z))))))) <| yK 12 (yT [uX 0, uX 0, uX (bt smallsS (((x % 100) * 2) + 1)), uX 0, uX 0, uX 0, uX 0, uX 0, uX 0, uX 0, uX 0, uX 0, uX 0, uX 0, uX 0, uX 0, uX 0, uX 0, uX 0, uX 0, uX 0, uX 0, uX 0, uX 0] j fun D l m => ?_); have n := zt h m iZ; refine q9 <| yd [13] [] (.i 0 (2) .z) <| yK 14 (yT [uX 0, uX (bt smallsS ((x % 100) * 2)), uX (bt smallsS (((x % 100) * 2) + 1)), uX 0, uX 0, uX 0, uX 0, uX 0, uX 0, uX 0, uX 0, uX 0, uX 0, uX 0, uX 0, uX 0, uX 0, uX 0, uX 0, uX 0, uX 0, uX 0, uX 0, uX 0] l fun E o r => ?_); have s := zt n r iZ; refine q9 <| yDe (nS ?_)
 refine q7 <| yp 3 [] (.q6 0 .z) <| ye <| yx 2 <| ycf <| qp (qM ?_); exact ⟨rfl, o, s⟩
set_option maxRecDepth 100000 in
set_option maxHeartbeats 4000000 in
theorem fmt2_any (n : Int) (w : World) (hp : ql4 w) (h0 : 10 ≤ -n) (h1 : -n ≤ 99) : Calls Tryz.prog 134 [iX n, iX 10].toArray w fun e w' => e = .returned (.string (qq [45, bt smallsS (((-n) % 100) * 2), bt smallsS ((((-n) % 100) * 2) + 1)])) ∧ Ch (fun _ => False) w w' := by
 have hx : (IntKind.wrap .u64 (0 - (IntKind.wrap .u64 n))) = -n := by simp [IntKind.wrap, IntKind.bits, IntKind.signed]; omega
 refine yA Tryz.func134 rfl <| yx 1 <| ys <| yx 2 <| yct <| ys <| ysr <| yq 3 <| yw [14] (rM 0 n) (fun d => ?_) fun d => ?_
 ·exfalso; omega
 refine yz 6 <| ycf <| yk <| ysr <| yo (yN [uX 0, uX 0, uX 0, uX 0, uX 0, uX 0, uX 0, uX 0, uX 0, uX 0, uX 0, uX 0, uX 0, uX 0, uX 0, uX 0, uX 0, uX 0, uX 0, uX 0, uX 0, uX 0, uX 0, uX 0] 181 fun C a f D g b => ?_); have E := zn f (zm w); have k := zu (zm w) b iZ; have l := qeQ b hp id; refine ye <| yx 3 <| ys <| yx 2 <| yc (rL n 0) (fun m => ?_) fun m => ?_
 ·refine q7 <| yz 3 <| ysr <| yq 1 <| yo (yQ (nd2_any (IntKind.wrap .u64 (0 - (IntKind.wrap .u64 n))) _ l (by omega) (by omega)) fun F c => ?_); have o := zu k c iZ; have s := g.ch c id; refine yz 3 <| ysr <| yp 4 [2] (.q6 3 (.j 3 (24) (.j 1 (3) (.p (q := 1 < 24) (by omega) .z)))) <| yo (yQ (fb2_any a (IntKind.wrap .u64 (0 - (IntKind.wrap .u64 n))) _ (by omega) (by omega) s) ?_); rintro G ⟨t, u⟩; have v := zu o u (fun i hi (h : i = a) => by omega); refine ye <| ys <| yx 2 <| yc (rL n 0) (fun x => ?_) fun x => ?_
  ·refine ysr <| yp 1 [] (.i 0 (24) .z) <| yo (yT [uX 45, uX (bt smallsS (((IntKind.wrap .u64 (0 - (IntKind.wrap .u64 n))) % 100) * 2)), uX (bt smallsS ((((IntKind.wrap .u64 (0 - (IntKind.wrap .u64 n))) % 100) * 2) + 1)), uX 0, uX 0, uX 0, uX 0, uX 0, uX 0, uX 0, uX 0, uX 0, uX 0, uX 0, uX 0, uX 0, uX 0, uX 0, uX 0, uX 0, uX 0, uX 0, uX 0, uX 0] t fun H y A => ?_); have B := zu v A (fun i hi (h : i = a) => by omega); refine ye <| ysr <| yp 3 [] (.q6 3 (.j 3 (24) .z)) <| yo (qbQ (some ⟨a, 0, none⟩) (3 : Int).toNat 24 [45, (bt smallsS (((IntKind.wrap .u64 (0 - (IntKind.wrap .u64 n))) % 100) * 2)), (bt smallsS ((((IntKind.wrap .u64 (0 - (IntKind.wrap .u64 n))) % 100) * 2) + 1))] (some 39) (by kernel_rfl) (Rd.pre (ys := [uX 45, uX (bt smallsS (((IntKind.wrap .u64 (0 - (IntKind.wrap .u64 n))) % 100) * 2)), uX (bt smallsS ((((IntKind.wrap .u64 (0 - (IntKind.wrap .u64 n))) % 100) * 2) + 1))]) (r := [uX 0, uX 0, uX 0, uX 0, uX 0, uX 0, uX 0, uX 0, uX 0, uX 0, uX 0, uX 0, uX 0, uX 0, uX 0, uX 0, uX 0, uX 0, uX 0, uX 0, uX 0]) y) rfl ?_); refine yz 5 <| qd (rS (rS (yR1 (.string (qq [45, (bt smallsS (((IntKind.wrap .u64 (0 - (IntKind.wrap .u64 n))) % 100) * 2)), (bt smallsS ((((IntKind.wrap .u64 (0 - (IntKind.wrap .u64 n))) % 100) * 2) + 1))])) ?_))); refine ⟨?_, Up.ch B⟩; rw [hx]
  exfalso; omega
 exfalso; omega
set_option maxRecDepth 100000 in
set_option maxHeartbeats 4000000 in
theorem fmt0_any (n : Int) (w : World) (h0 : 0 ≤ n) (h1 : n ≤ 99) : Calls Tryz.prog 134 [iX n, iX 10].toArray w fun e w' => e = .returned (.string (qee n)) ∧ Ch (fun _ => False) w w' := by
 refine yA Tryz.func134 rfl <| yx 1 <| ys <| yx 2 <| yct <| ys <| ysr <| yq 3 <| yw [14] (rM 0 n) (fun a => ?_) fun a => ?_
 ·refine yz 6 <| yc (rL n 100) (fun b => ?_) fun b => ?_
  ·refine ysr <| yq 1 <| yo (yQ (qm0 n _ h0 h1) fun f c => ?_); have d := zu (zm w) c iZ; refine yz 3 <| qd (rS (rS (yR1 (.string (qee n)) ?_))); exact ⟨rfl, Up.ch d⟩
  exfalso; omega
 exfalso; omega
def qc9 (n : Int) : ByteArray := if 0 ≤ n then qee n else if -9 ≤ n then qq [45, 48 + (-n)] else qq [45, bt smallsS (((-n) % 100) * 2), bt smallsS ((((-n) % 100) * 2) + 1)]
theorem fmt_any (n : Int) (w : World) (hp : ql4 w) (h0 : -99 ≤ n) (h1 : n ≤ 99) : Calls Tryz.prog 134 [iX n, iX 10].toArray w fun e w' => e = .returned (.string (qc9 n)) ∧ Ch (fun _ => False) w w' := by
 unfold qc9; by_cases h : 0 ≤ n
 ·rw [if_pos h]; exact fmt0_any n w h h1
 rw [if_neg h]; by_cases a : -9 ≤ n
 ·rw [if_pos a]; exact fmt1_any n w hp (by omega) (by omega)
 rw [if_neg a]; exact fmt2_any n w hp (by omega) (by omega)
set_option maxHeartbeats 4000000 in
theorem qm1 (n : Int) (w : World) (hp : ql4 w) (h0 : -99 ≤ n) (h1 : n ≤ 99) : Calls Tryz.prog 133 [iX n].toArray w fun e w' => e = .returned (.string (qc9 n)) ∧ Ch (fun _ => False) w w' := by
 refine yA Tryz.func133 rfl <| yx 1 <| ysr <| yq 1 <| yo (yQ (fmt_any n _ hp h0 h1) fun c a => ?_); have b := zu (zm w) a iZ; refine yz 3 <| qd (yR1 (.string (qc9 n)) ?_); exact ⟨rfl, Up.ch b⟩
set_option maxHeartbeats 4000000 in
theorem qex (n : Int) (w : World) (hp : ql4 w) (h0 : -99 ≤ n) (h1 : n ≤ 99) : Calls Tryz.prog 132 [iX n].toArray w fun e w' => e = .returned (.string (qc9 n)) ∧ Ch (fun _ => False) w w' := by
 refine yA Tryz.func132 rfl <| yx 1 <| ysr <| yq 1 <| yo (yQ (qm1 n _ hp h0 h1) fun c a => ?_); have b := zu (zm w) a iZ; refine yz 3 <| qd (yR1 (.string (qc9 n)) ?_); exact ⟨rfl, Up.ch b⟩
structure LT (w : World) : Prop where
 tb : qa4 w
 ut : qbS w
 pt : ql4 w
theorem qz {w w' : World} {B : Nat → Prop} (h : Ch B w w') (hT : LT w) (hB : ∀ b, B b → gTop ≤ b) : LT w' :=
 have k : ∀ b, b < gTop → ¬ B b := fun b hb h => by have := hB b h; omega
 ⟨qh h hT.tb (k _ g_lt.1) (k _ g_lt.2), qZ h hT.ut (k _ u_lt.1) (k _ u_lt.2), qeQ h hT.pt (k _ (by decide))⟩
def qbx (T : TS) (s : ByteArray) : TS := if ((T.reply.size : Nat) : Int) + ((s.size : Nat) : Int) ≤ 400 then { T with reply := T.reply ++ s } else T
def qcr (T : TS) : ByteArray := (qc9 ((if T.origin = true then T.cursor.y - T.top else T.cursor.y) + 1) ++ ⟨#[59]⟩) ++ qc9 (T.cursor.x + 1)
def qbA (T : TS) (c k : Int) : TS :=
 if c = 103 ∧ k = 0 then { T with tabs := fun i => if i = T.cursor.x.toNat then false else T.tabs i }
 else if c = 103 ∧ k = 3 then { T with tabs := fun _ => false }
 else if (c = 104 ∨ c = 108) ∧ k = 4 then { T with insert := ((c : Int) == 104) }
 else if c = 110 ∧ k = 5 then qbx T ⟨#[27, 91, 48, 110]⟩
 else if c = 110 ∧ k = 6 then qbx T ((⟨#[27, 91]⟩ ++ qcr T) ++ ⟨#[82]⟩)
 else if c = 99 ∧ k = 0 then qbx T ⟨#[27, 91, 63, 54, 99]⟩
 else T
def qca (T : TS) (y a b : Int) (s : Sty) : TS := { T with grid := qT T.grid y a b s }
def qaG (T : TS) (k x y : Int) (s : Sty) (i : Int) : TS :=
 if k = 2 ∨ (k = 0 ∧ y < i) ∨ (k = 1 ∧ i < y) then qca T i 0 T.grid.w s
 else if k = 0 ∧ i = y then qca T i x T.grid.w s
 else if k = 1 ∧ i = y then qca T i 0 (x + 1) s
 else T
def qdw (T : TS) (k x y : Int) (s : Sty) (a : Int) : Nat → TS
 | 0 => T
 | j + 1 => qaG (qdw T k x y s a j) k x y s (a + (j : Int))
def qb0 (T : TS) (k a b : Int) : TS := qdw T k T.cursor.x T.cursor.y T.cursor.sty a (b - a).toNat
def qaJ (T : TS) (c n : Int) (l : List Int) : TS :=
 if c = 64 then { T with grid := qd5 T.grid T.cursor.x T.cursor.y n T.cursor.sty }
 else if c = 80 then { T with grid := qdT T.grid T.cursor.x T.cursor.y n T.cursor.sty }
 else if c = 88 then { T with grid := qT T.grid T.cursor.y T.cursor.x (T.cursor.x + n) T.cursor.sty }
 else if c = 75 then qb0 T (qI l) T.cursor.y (T.cursor.y + 1)
 else if c = 74 then (if qI l = 3 then qb0 { T with back := [] } (qI l) 0 T.grid.h else qb0 T (qI l) 0 T.grid.h)
 else if c = 76 then (if T.top ≤ T.cursor.y ∧ T.cursor.y < T.bot then { T with grid := qc7 T.grid T.cursor.y T.bot n T.cursor.sty } else T)
 else if c = 77 then (if T.top ≤ T.cursor.y ∧ T.cursor.y < T.bot then { T with grid := upG T.grid T.cursor.y T.bot n T.cursor.sty } else T)
 else if c = 83 then qar T n
 else if c = 84 then { T with grid := qc7 T.grid T.top T.bot n T.cursor.sty }
 else qbA T c (qI l)
def qa5 (T : TS) (c : Int) (l : List Int) : TS :=
 if c = 65 then qa8 T T.cursor.x (max (T.cursor.y - qi l 0) (if T.top ≤ T.cursor.y then T.top else 0))
 else if c = 66 ∨ c = 101 then qa8 T T.cursor.x (min (T.cursor.y + qi l 0) ((if T.cursor.y < T.bot then T.bot else T.grid.h) - 1))
 else if c = 67 ∨ c = 97 then qa8 T (T.cursor.x + qi l 0) T.cursor.y
 else if c = 68 then qa8 T (T.cursor.x - qi l 0) T.cursor.y
 else if c = 71 ∨ c = 96 then qa8 T (qi l 0 - 1) T.cursor.y
 else if c = 100 then qaV T (T.cursor.x + 1) (qi l 0)
 else if c = 72 ∨ c = 102 then qaV T (qi l 1) (qi l 0)
 else if c = 109 then { T with cursor := ⟨T.cursor.x, T.cursor.y, T.cursor.late, qbJ T.cursor.sty l⟩ }
 else if c = 114 then
  (if qi l 0 < (if 1 < ((l.length : Nat) : Int) ∧ 0 < l.getD 1 0 then min (l.getD 1 0) T.grid.h else T.grid.h) then
   qaV { T with top := qi l 0 - 1, bot := (if 1 < ((l.length : Nat) : Int) ∧ 0 < l.getD 1 0 then min (l.getD 1 0) T.grid.h else T.grid.h) } 1 1 else T)
 else qaJ T c (qi l 0) l
def qda (G : Gr) : Nat → Gr
 | 0 => G
 | k + 1 => qT (qda G k) (k : Int) 0 (qda G k).w qc0
def qgy (T : TS) (b : Bool) : TS :=
 if (b == T.alt) = true then T
 else if b = true then { T with alt := b, grid := qda T.other T.other.h.toNat, other := T.grid, cursor := T.cursor, away := T.cursor }
 else { T with alt := b, grid := T.other, other := T.grid, cursor := T.away, away := T.cursor }
def qay (T : TS) (n : Int) (b : Bool) : TS :=
 if n = 6 then qaV { T with origin := b } 1 1
 else if n = 7 then { T with wrap := b, cursor := ⟨T.cursor.x, T.cursor.y, T.cursor.late && b, T.cursor.sty⟩ }
 else if n = 25 then { T with hidden := !b }
 else if n = 1049 then qgy T b
 else T
def qii (T : TS) (a : Ac) : TS :=
 if (a.marks.toList == ByteArray.empty.toList) = true then qa5 T a.last a.params
 else if (a.marks.toList == (⟨#[63]⟩ : ByteArray).toList) = true ∧ (a.last = 104 ∨ a.last = 108) then a.params.foldl (fun T n => qay T n ((a.last : Int) == 104)) T
 else T
def qgz (k : Nat) (i : Nat) : Bool := decide (i % 8 = 0 ∧ 8 ≤ i ∧ i < 8 + 8 * k)
def qa7 (T : TS) (w h : Int) : TS :=
 {grid := qh5 w h, other := qh5 w h, cursor := cur0, saved := cur0, away := cur0, top := 0, bot := qj h, tabs := qgz 7, wrap := true, origin := false, insert := false, hidden := false, draw0 := false, draw1 := false, shift := false, alt := false, title := ByteArray.empty, back := [], parser := T.parser, reply := T.reply }
def qey (T : TS) (a : Ac) : TS :=
 if (a.marks.toList == (⟨#[40]⟩ : ByteArray).toList) = true then
  (if a.last = 48 ∨ a.last = 66 then { T with draw0 := ((a.last : Int) == 48) } else T)
 else if (a.marks.toList == (⟨#[41]⟩ : ByteArray).toList) = true then
  (if a.last = 48 ∨ a.last = 66 then { T with draw1 := ((a.last : Int) == 48) } else T)
 else if (a.marks.toList == ByteArray.empty.toList) = false then T
 else if a.last = 55 then { T with saved := T.cursor }
 else if a.last = 56 then { T with cursor := T.saved }
 else if a.last = 68 then qaL (qaC T) false
 else if a.last = 69 then qa8 (qaC T) 0 (qaC T).cursor.y
 else if a.last = 77 then qaL (upT T) false
 else if a.last = 72 then { T with tabs := fun i => if i = T.cursor.x.toNat then true else T.tabs i }
 else if a.last = 99 then qa7 T T.grid.w T.grid.h
 else T
def qjn (T : TS) (a : Ac) : TS :=
 if 2 ≤ ((a.text.size : Nat) : Int) ∧ ((((a.text).extract 0 (2 : Int).toNat).toList == (⟨#[48, 59]⟩ : ByteArray).toList) = true ∨ (((a.text).extract 0 (2 : Int).toNat).toList == (⟨#[50, 59]⟩ : ByteArray).toList) = true) then { T with title := (a.text).extract (2 : Int).toNat (a.text).size } else T
def qdh (T : TS) (a : Ac) : TS :=
 if a.kind = 0 then qcA T a.rune
 else if a.kind = 1 then qcl T a.last
 else if a.kind = 2 then qey T a
 else if a.kind = 3 then qii T a
 else if a.kind = 4 then qjn T a
 else T
section
variable {W H : Int} {T : TS}
theorem Lim.flags (h : Lim W H T) {T' : TS} (e1 : T'.grid = T.grid) (e2 : T'.other = T.other) (e3 : T'.cursor = T.cursor) (e4 : T'.saved = T.saved) (e5 : T'.away = T.away) (e6 : T'.top = T.top) (e7 : T'.bot = T.bot) (e8 : T'.back = T.back) (e9 : T'.reply = T.reply) : Lim W H T' :=
 ⟨h.wb, h.hb, by rw [e1]; exact h.g1, by rw [e2]; exact h.g2, by rw [e3]; exact h.cu, by rw [e4]; exact h.sa, by rw [e5]; exact h.aw, by rw [e6, e7]; exact h.tb, by rw [e8]; exact h.bk, by rw [e9]; exact h.rp⟩
theorem TermIn.swap {w w' : World} {t g o : Nat} {ba : Option Addr} {bn bc : Nat} {pa : Option Addr} {pn pc : Nat} {T T' : TS} {F F1 F2 FB FP : Nat → Prop} (h : TermIn w t g o ba bn bc pa pn pc T F F1 F2 FB FP) (hc : Ch (fun j => j = t) w w')
  (hb : Blk w' t (T'.vals o g (.slice ba bn bc) (.slice pa pn pc)) qV) (hg : T'.grid = T.other) (ho : T'.other = T.grid) (hk : T'.back = T.back) (hp : T'.parser.params = T.parser.params) : TermIn w' t o g ba bn bc pa pn pc T' F F2 F1 FB FP := by
 obtain ⟨rows, hL, hl⟩ := h.bk
 exact
 {blk := hb
  g1 := by rw [hg]; exact h.g2.ch hc fun b hb e => h.t2 (e ▸ hb)
  g2 := by rw [ho]; exact h.g1.ch hc fun b hb e => h.t1 (e ▸ hb)
  bk := ⟨rows, hL.ch hc fun b hb e => h.tB (e ▸ hb), by rw [hk]; exact hl⟩
  bcap := h.bcap
  ps := by rw [hp]; exact ⟨h.ps.1.ch hc fun ad e e2 => h.tP (e2 ▸ h.ps.2.2.2 ad e), h.ps.2⟩
  pz := h.pz
  bz := h.bz
  t1 := h.t2, t2 := h.t1, tB := h.tB, tP := h.tP
  a12 := fun b h1 h2 => h.a12 b h2 h1
  a1B := h.a2B, a2B := h.a1B, a1P := h.a2P, a2P := h.a1P
  inF := ⟨h.inF.1, h.inF.2.2.1, h.inF.2.1, h.inF.2.2.2.1, h.inF.2.2.2.2⟩
  lt := fun b hb => Nat.lt_of_lt_of_le (h.lt b hb) hc.size
  hi := h.hi }
def qgA (T : TS) (k : Nat) : TS := { T with grid := qda T.grid k }
theorem TermIn.nilBack {w w' : World} {t g o : Nat} {ba : Option Addr} {bn bc : Nat} {pa : Option Addr} {pn pc : Nat} {T : TS} {F F1 F2 FB FP : Nat → Prop} (h : TermIn w t g o ba bn bc pa pn pc T F F1 F2 FB FP) (hc : Ch (fun j => j = t) w w')
  (hb : Blk w' t (({ T with back := [] } : TS).vals g o (.slice none 0 0) (.slice pa pn pc)) qV) : TermIn w' t g o none 0 0 pa pn pc ({ T with back := [] } : TS) F F1 F2 FB FP :=
 {h with
  blk := hb
  g1 := h.g1.ch hc fun b hb e => h.t1 (e ▸ hb)
  g2 := h.g2.ch hc fun b hb e => h.t2 (e ▸ hb)
  bk := ⟨[], ⟨Rd.nil _ _, rfl, (fun x hx => by cases hx), (fun x hx => by cases hx), (fun ad e => by cases e), fun b hb => Nat.lt_of_lt_of_le (h.lt b (h.inF.2.2.2.1 b hb)) hc.size, fun b hb => h.hi b (h.inF.2.2.2.1 b hb)⟩, rfl⟩
  bcap := ⟨Nat.le_refl _, fun _ => rfl⟩
  bz := .inl rfl
  ps := ⟨h.ps.1.ch hc fun ad e e2 => h.tP (e2 ▸ h.ps.2.2.2 ad e), h.ps.2⟩
  lt := fun b hb => Nat.lt_of_lt_of_le (h.lt b hb) hc.size }
theorem qD {P : TS → Prop} {c : Prop} [Decidable c] {a b : TS} (h1 : c → P a) (h2 : ¬ c → P b) : P (if c then a else b) := by
 by_cases h : c
 ·rw [if_pos h]; exact h1 h
 ·rw [if_neg h]; exact h2 h
theorem qcb (h : Lim W H T) (s : ByteArray) : Lim W H (qbx T s) := by
 unfold qbx
 split
 ·exact { h with rp := by show (T.reply ++ s).size ≤ 400; rw [ByteArray.size_append]; omega }
 ·exact h
theorem qez (h : Lim W H T) (c k : Int) : Lim W H (qbA T c k) := by
 unfold qbA
 refine qD (fun _ => h.flags rfl rfl rfl rfl rfl rfl rfl rfl rfl) fun _ => ?_
 refine qD (fun _ => h.flags rfl rfl rfl rfl rfl rfl rfl rfl rfl) fun _ => ?_
 refine qD (fun _ => h.flags rfl rfl rfl rfl rfl rfl rfl rfl rfl) fun _ => ?_
 refine qD (fun _ => qcb h _) fun _ => ?_
 refine qD (fun _ => qcb h _) fun _ => ?_
 refine qD (fun _ => qcb h _) fun _ => h
theorem qm2 (h : Lim W H T) (y a b : Int) (s : Sty) : Lim W H (qca T y a b s) := h.grid (qad _ _ _ _ _)
theorem qkm (h : Lim W H T) (k x y : Int) (s : Sty) (i : Int) : Lim W H (qaG T k x y s i) := by
 unfold qaG
 repeat' split
 all_goals first | exact qm2 h _ _ _ _ | exact h
theorem qfM (h : Lim W H T) (k x y : Int) (s : Sty) (a : Int) (j : Nat) : Lim W H (qdw T k x y s a j) := by
 induction j with
 | zero => exact h
 | succ j ih => exact qkm ih _ _ _ _ _
theorem qb1 (h : Lim W H T) (k a b : Int) : Lim W H (qb0 T k a b) := qfM h _ _ _ _ _ _
theorem qjo (h : Lim W H T) (c n : Int) (l : List Int) : Lim W H (qaJ T c n l) := by
 have hd : ∀ a b n s, Lim W H { T with grid := qc7 T.grid a b n s } := fun a b n s => h.grid (G := qc7 T.grid a b n s) ⟨rfl, rfl⟩
 have hu : ∀ a b n s, Lim W H { T with grid := upG T.grid a b n s } := fun a b n s => h.grid (G := upG T.grid a b n s) ⟨rfl, rfl⟩
 unfold qaJ
 refine qD (fun _ => h.grid (qd8 _ _ _ _ _)) fun _ => ?_
 refine qD (fun _ => h.grid (qgq _ _ _ _ _)) fun _ => ?_
 refine qD (fun _ => h.grid (qad _ _ _ _ _)) fun _ => ?_
 refine qD (fun _ => qb1 h _ _ _) fun _ => ?_
 refine qD (fun _ => qD (fun _ => qb1 (T := { T with back := [] }) { h with bk := by simp } _ _ _) fun _ => qb1 h _ _ _) fun _ => ?_
 refine qD (fun _ => qD (fun _ => hd _ _ _ _) fun _ => h) fun _ => ?_
 refine qD (fun _ => qD (fun _ => hu _ _ _ _) fun _ => h) fun _ => ?_
 refine qD (fun _ => qc8 h _) fun _ => ?_
 refine qD (fun _ => hd _ _ _ _) fun _ => ?_
 exact qez h _ _
theorem qcX (l : List Int) (i : Nat) : 1 ≤ qi l i := by unfold qi; split <;> omega
theorem qhD {l : List Int} (h : ∀ x ∈ l, 0 ≤ x ∧ x ≤ 9999) (i : Nat) : qi l i ≤ 9999 := by
 unfold qi
 have := qak h (by decide) i
 split <;> omega
theorem qfN (h : Lim W H T) {n e : Int} (hn : 1 ≤ n ∧ n < e ∧ e ≤ H) : Lim W H { T with top := n - 1, bot := e } :=
 {h with tb := ⟨by show (0 : Int) ≤ n - 1; omega, by show n - 1 < e; omega, hn.2.2⟩ }
theorem qhE (h : Lim W H T) (c : Int) (l : List Int) : Lim W H (qa5 T c l) := by
 have h1 := h.g1
 have hp := qcX l 0
 unfold qa5
 refine qD (fun _ => qR h _ _) fun _ => ?_
 refine qD (fun _ => qR h _ _) fun _ => ?_
 refine qD (fun _ => qR h _ _) fun _ => ?_
 refine qD (fun _ => qR h _ _) fun _ => ?_
 refine qD (fun _ => qR h _ _) fun _ => ?_
 refine qD (fun _ => qaN h _ _) fun _ => ?_
 refine qD (fun _ => qaN h _ _) fun _ => ?_
 refine qD (fun _ => h.cursor h.cu) fun _ => ?_
 refine qD (fun _ => qD (fun h5 => qaN (qfN h ⟨hp, h5, ?_⟩) _ _) fun _ => h) fun _ => qjo h _ _ _
 split <;> omega
theorem qeR (G : Gr) (k : Nat) : (qda G k).w = G.w ∧ (qda G k).h = G.h := by
 induction k with
 | zero => exact ⟨rfl, rfl⟩
 | succ k ih => exact ⟨(qad _ _ _ _ _).1.trans ih.1, (qad _ _ _ _ _).2.trans ih.2⟩
theorem qkn (h : Lim W H T) (k : Nat) : Lim W H (qgA T k) := h.grid (qeR _ _)
theorem qgB (h : Lim W H T) (b : Bool) : Lim W H (qgy T b) := by
 have h1 := h.g1
 have h2 := h.g2
 unfold qgy
 split
 ·exact h
 ·split
  ·exact ⟨h.wb, h.hb, ⟨(qeR _ _).1.trans h2.1, (qeR _ _).2.trans h2.2⟩, h1, h.cu, h.sa, h.cu, h.tb, h.bk, h.rp⟩
  ·exact ⟨h.wb, h.hb, h2, h1, h.aw, h.sa, h.cu, h.tb, h.bk, h.rp⟩
theorem qgC (h : Lim W H T) (n : Int) (b : Bool) : Lim W H (qay T n b) := by
 unfold qay
 split
 ·exact qaN (T := { T with origin := b }) (h.flags rfl rfl rfl rfl rfl rfl rfl rfl rfl) _ _
 split
 ·exact { h.cursor (c := ⟨T.cursor.x, T.cursor.y, T.cursor.late && b, T.cursor.sty⟩) h.cu with }
 split
 ·exact h.flags rfl rfl rfl rfl rfl rfl rfl rfl rfl
 split
 ·exact qgB h b
 ·exact h
theorem qcC (h : Lim W H T) (l : List Int) (b : Bool) : Lim W H (l.foldl (fun T n => qay T n b) T) := by
 induction l generalizing T with
 | nil => exact h
 | cons n l ih => exact ih (qgC h n b)
theorem qm3 (h : Lim W H T) (a : Ac) : Lim W H (qii T a) := by
 unfold qii
 split
 ·exact qhE h _ _
 split
 ·exact qcC h _ _
 ·exact h
theorem qcY {n : Int} (h : 1 ≤ n ∧ n ≤ 60) : qj n = n := by unfold qj; omega
theorem qcD (T : TS) (w h : Int) (hr : T.reply.size ≤ 400) : Lim (qj w) (qj h) (qa7 T w h) := by
 have h1 : 1 ≤ qj w ∧ qj w ≤ 60 := by unfold qj; omega
 have h2 : 1 ≤ qj h ∧ qj h ≤ 60 := by unfold qj; omega
 have hc : (0 ≤ cur0.x ∧ cur0.x < qj w) ∧ 0 ≤ cur0.y ∧ cur0.y < qj h := ⟨⟨by decide, by show (0 : Int) < _; omega⟩, by decide, by show (0 : Int) < _; omega⟩
 exact ⟨h1, h2, ⟨rfl, rfl⟩, ⟨rfl, rfl⟩, hc, hc, hc, ⟨by show (0 : Int) ≤ 0; omega, by show (0 : Int) < qj h; omega, by show qj h ≤ qj h; omega⟩, by show ([] : List (List Cel)).length ≤ 20; simp, hr⟩
theorem qm4 (h : Lim W H T) (a : Ac) : Lim W H (qey T a) := by
 unfold qey
 refine qD (fun _ => qD (fun _ => h.flags rfl rfl rfl rfl rfl rfl rfl rfl rfl) fun _ => h) fun _ => ?_
 refine qD (fun _ => qD (fun _ => h.flags rfl rfl rfl rfl rfl rfl rfl rfl rfl) fun _ => h) fun _ => ?_
 refine qD (fun _ => h) fun _ => ?_
 refine qD (fun _ => { h with sa := h.cu }) fun _ => ?_
 refine qD (fun _ => { h with cu := h.sa }) fun _ => ?_
 refine qD (fun _ => qgs (qaO h) _) fun _ => ?_
 refine qD (fun _ => qR (qaO h) _ _) fun _ => ?_
 refine qD (fun _ => qgs (lim_up h) _) fun _ => ?_
 refine qD (fun _ => h.flags rfl rfl rfl rfl rfl rfl rfl rfl rfl) fun _ => ?_
 refine qD (fun _ => ?_) fun _ => h
 have := qcD T T.grid.w T.grid.h h.rp
 rw [h.g1.1, h.g1.2, qcY h.wb, qcY h.hb] at this
 rw [h.g1.1, h.g1.2]; exact this
theorem lim_osc (h : Lim W H T) (a : Ac) : Lim W H (qjn T a) := by
 unfold qjn
 split
 ·exact h.flags rfl rfl rfl rfl rfl rfl rfl rfl rfl
 ·exact h
theorem qm5 (h : Lim W H T) (a : Ac) : Lim W H (qdh T a) := by
 unfold qdh
 split
 ·exact qeM h _
 split
 ·exact qgt h _
 split
 ·exact qm4 h a
 split
 ·exact qm3 h a
 split
 ·exact lim_osc h a
 ·exact h
end
set_option maxHeartbeats 4000000 in
theorem qgD {w : World} {t : Nat} {W H : Int} {T : TS} {F : Nat → Prop} (hA0 : TermAt w t T F) (hT : LT w) (hL : Lim W H T) (x : ByteArray) (hx : x.size ≤ 1000) : Calls Tryz.prog 130 [pX t, .string x].toArray w fun e w' => e = .returned (.tuple #[]) ∧ TermAt w' t (qbx T x) (more F w w') ∧ Ch F w w' := by
 obtain ⟨g, o, ba, bn, bc, pa, pn, pc, j, k, FB, FP, hI⟩ := hA0; have hA0 : TermAt w t T F := ⟨g, o, ba, bn, bc, pa, pn, pc, j, k, FB, FP, hI⟩
 have y := hI.inF.1; obtain ⟨gv, A⟩ := hI.g1.head; have B : Df t g := fun e => hI.t1 (e ▸ hI.g1.inF); obtain ⟨⟨C, D⟩, ⟨E, G⟩, I, J⟩ := hI.g1.ok; have m := hL; have K := m.all; refine yA Tryz.func130 rfl <| ysr <| yp 9 [] (.l (hI.blk.c 107) (.q6 (((T.reply).size : Int) + ((x).size : Int)) .z)) <| ye <| yc (rM (((T.reply).size : Int) + ((x).size : Int)) 400) (fun a => ?_) fun a => ?_
 ·refine q7 <| yp 8 [] (.l (hI.blk.c 107) (.p (q := (T.reply).size + (x).size ≤ 9223372036854775807) (by omega) .z)) <| yo (yS hI.blk fun L n r => ?_); have b := zt (Ch.refl (· = t) w) r (fun i hi (h : i = t) => h); refine yE (qM ?_); have s := hI.scalar (T' := ({ T with reply := (T.reply ++ x) } : TS)) b (Blk.to n (by kernel_rfl)) rfl rfl rfl rfl; have d := hI.cht b; have u := s.pk1 hI d; refine ⟨rfl, TermAt.eq' u ?_, d⟩; simp only [qbx, a, ↓reduceIte, Int.reduceEq, Int.reduceLT, Int.reduceLE, sB]
 refine qp (qM ?_); have f := hI.cht (Ch.refl (· = t) w); have v := hI.pk1 hI f; refine ⟨rfl, TermAt.eq' v ?_, f⟩; simp only [qbx, a, ↓reduceIte, Int.reduceEq, Int.reduceLT, Int.reduceLE, sB]
theorem qhF : (⟨#[59]⟩ : ByteArray).size = 1 := rfl
theorem qko (n : Int) : (qee n).size ≤ 2 := by
 unfold qee; split
 ·rw [ByteArray.size_extract]; omega
 rw [ByteArray.size_extract]; omega
theorem qcE (n : Int) : (qc9 n).size ≤ 3 := by
 have d : ∀ a b : Int, (qq [a, b]).size = 2 := fun _ _ => rfl; have e : ∀ a b c : Int, (qq [a, b, c]).size = 3 := fun _ _ _ => rfl; have := qko n; unfold qc9; split
 ·omega
 split
 ·rw [d]; omega
 rw [e]; omega
set_option maxHeartbeats 4000000 in
theorem qm6 {w : World} {t g o : Nat} {ba : Option Addr} {bn bc : Nat} {pa : Option Addr} {pn pc : Nat} {T : TS} {F F1 F2 FB FP : Nat → Prop} (hI : TermIn w t g o ba bn bc pa pn pc T F F1 F2 FB FP) {W H : Int} (hT : LT w) (hL : Lim W H T) : Calls Tryz.prog 131 [pX t].toArray w fun e w' => e = .returned (.string (qcr T)) ∧ Ch (fun _ => False) w w' := by
 have j := hI.g1.head; obtain ⟨gv, j⟩ := j; obtain ⟨⟨L, M⟩, ⟨N, O⟩, P, Q⟩ := hI.g1.ok; have R : Df t g := fun e => hI.t1 (e ▸ hI.g1.inF); have S := hI.inF.1; have n := hL; have U := n.all; have V := qcE (T.cursor.y + 1); have X := qcE (T.cursor.y - T.top + 1); have Y := qcE (T.cursor.x + 1); refine yA Tryz.func131 rfl <| yx 1 <| ysr <| yp 6 [] (.l (hI.blk.c 3) .z) <| ye <| ys <| ysr <| yp 4 [] (.l (hI.blk.c 89) .z) <| ye <| yc (rY T.origin) (fun a => ?_) fun a => ?_
 ·refine q7 <| yp 7 [] (.l (hI.blk.c 26) (.q6 (T.cursor.y - T.top) .z)) <| ye <| ys <| yDC [10] fun Z a0 b => ?_; have r := zu (zm w) b iZ; have s := hI.blk.ch b id; have k := qz b hT (fun _ h => h.elim); refine ydC [0, 1, 4, 5, 6, 7, 8, 9] [] (fun u hu => (.q6 ((T.cursor.y - T.top) + 1) (.l (qg hu (s.c 2) id) (.q6 (T.cursor.x + 1) .z)))) <| yH 2 (yQ (qex ((T.cursor.y - T.top) + 1) _ k.pt (by omega) (by omega)) fun a1 d => ?_); have v := zu r d iZ; have A := qz d k (fun _ h => h.elim); refine qU d <| ydT [3] [] (Ch.refl _ _) (fun _ => (.p (q := ((qc9 ((T.cursor.y - T.top) + 1))).size + ((⟨#[59]⟩ : ByteArray)).size ≤ 9223372036854775807) (by simp only [ByteArray.size_append, qhF]; omega) .z)) <| yK 10 (yQ (qex (T.cursor.x + 1) _ A.pt (by omega) (by omega)) fun a2 B => ?_); have C := zu v B iZ; refine q9 <| yd [11, 12] [] (.p (q := (((qc9 ((T.cursor.y - T.top) + 1)) ++ (⟨#[59]⟩ : ByteArray))).size + ((qc9 (T.cursor.x + 1))).size ≤ 9223372036854775807) (by simp only [ByteArray.size_append, qhF]; omega) .z) <| yDe (nS ?_); refine qd (yR1 (.string (((qc9 ((T.cursor.y - T.top) + 1)) ++ (⟨#[59]⟩ : ByteArray)) ++ (qc9 (T.cursor.x + 1)))) ?_); refine ⟨congrArg Ending.returned (congrArg Value.string ?_), Up.ch C⟩; simp only [qcr, a, ↓reduceIte, Bool.false_eq_true]
 refine yk <| ys <| yDC [10] fun a3 a4 f => ?_; have D := zu (zm w) f iZ; have E := hI.blk.ch f id; have m := qz f hT (fun _ h => h.elim); refine ydC [0, 1, 4, 5, 6, 7, 8, 9] [] (fun u hu => (.q6 (T.cursor.y + 1) (.l (qg hu (E.c 2) id) (.q6 (T.cursor.x + 1) .z)))) <| yH 2 (yQ (qex (T.cursor.y + 1) _ m.pt (by omega) (by omega)) fun a5 i => ?_); have G := zu D i iZ; have I := qz i m (fun _ h => h.elim); refine qU i <| ydT [3] [] (Ch.refl _ _) (fun _ => (.p (q := ((qc9 (T.cursor.y + 1))).size + ((⟨#[59]⟩ : ByteArray)).size ≤ 9223372036854775807) (by simp only [ByteArray.size_append, qhF]; omega) .z)) <| yK 10 (yQ (qex (T.cursor.x + 1) _ I.pt (by omega) (by omega)) fun a6 J => ?_); have K := zu G J iZ; refine q9 <| yd [11, 12] [] (.p (q := (((qc9 (T.cursor.y + 1)) ++ (⟨#[59]⟩ : ByteArray))).size + ((qc9 (T.cursor.x + 1))).size ≤ 9223372036854775807) (by simp only [ByteArray.size_append, qhF]; omega) .z) <| yDe (nS ?_); refine qd (yR1 (.string (((qc9 (T.cursor.y + 1)) ++ (⟨#[59]⟩ : ByteArray)) ++ (qc9 (T.cursor.x + 1)))) ?_); refine ⟨congrArg Ending.returned (congrArg Value.string ?_), Up.ch K⟩; simp only [qcr, a, ↓reduceIte, Bool.false_eq_true]
set_option maxHeartbeats 4000000 in
theorem qcZ {w : World} {t : Nat} {W H : Int} {T : TS} {F : Nat → Prop} (hA0 : TermAt w t T F) (hT : LT w) (hL : Lim W H T) (kk fa fb : Int) (hab : (0 ≤ fa ∧ fa ≤ 60) ∧ 0 ≤ fb ∧ fb ≤ 60) : Calls Tryz.prog 125 [pX t, iX kk, iX fa, iX fb].toArray w fun e w' => e = .returned (.tuple #[]) ∧ TermAt w' t (qb0 T kk fa fb) (more F w w') ∧ Ch F w w' := by
 obtain ⟨g, o, ba, bn, bc, pa, pn, pc, F1, F2, FB, FP, hI⟩ := hA0; have hA0 : TermAt w t T F := ⟨g, o, ba, bn, bc, pa, pn, pc, F1, F2, FB, FP, hI⟩
 have n := hI.inF.1; obtain ⟨gv, cj⟩ := hI.g1.head; have ck : Df t g := fun e => hI.t1 (e ▸ hI.g1.inF); obtain ⟨⟨cl, cm⟩, ⟨cn, co⟩, cp, cq⟩ := hI.g1.ok; have b7 := hL; have cr := b7.all; refine yA Tryz.func125 rfl <| ys <| yDC [18] fun ct cu ad => ?_; have ax := zt (Ch.refl (· = t) w) ad eZ; have K := hI.blk.ch ad id; have b8 := qz ad hT (fun _ h => h.elim); refine ydC (uL 0 15) [] (fun u hu => (.l (qg hu (K.c 2) id) (.l (qg hu (K.c 3) id) (.a (qE hu (K.cs 5 5) id) .z)))) <| yH 15 (yN [.bool false, .bool false, .bool false, iX 0, iX 0] 44 fun cv L b9 cw bb U => ?_); have cx := zn b9 ax; have bd := zt ax U eZ; have bf := K.ch U id; have bg := qz U b8 (fun _ h => h.elim); refine qU U <| ydC [16, 17] [] (fun u hu => .z) <| yK 18 (yT [.bool T.cursor.sty.bold, .bool T.cursor.sty.under, .bool T.cursor.sty.turned, iX T.cursor.sty.fore, iX T.cursor.sty.back] bb fun s ay ae => ?_); have az := zt bd ae (fun i hi (h : i = L) => by omega); have bh := bf.ch ae (fun (h : t = L) => by have := K.lt; omega); have bi := qz ae bg (fun b (h : b = L) => by have := hI.hi t n; have := hI.blk.lt; omega); refine q9 <| yDe (nS ?_); refine yx 2 <| q8 ?_; have f := hI.scalar (T' := T) az bh rfl rfl rfl rfl; have M : TermAt s t T F := ⟨_, _, _, _, _, _, _, _, _, _, _, _, f⟩
 have af : Ch F w s := az.mono (fun i _ h => h ▸ n); have cy := ay.lt; have aA := f.cht (Ch.refl (· = t) s); have bj := f.pk1 f aA; refine qN [0, 1, 3, 8, 9, 10, 11] (f' := [(0, pX t), (1, iX kk), (3, iX fb), (8, iX T.cursor.x), (9, iX T.cursor.y), (10, pX L), (11, iX fa)]) <| qw (σ := Nat) (fun j => [(0, pX t), (1, iX kk), (3, iX fb), (8, iX T.cursor.x), (9, iX T.cursor.y), (10, pX L), (11, iX (fa + ((j : Nat) : Int)))]) (fun j u => j ≤ (fb - fa).toNat ∧ (TermAt u t (qdw T kk T.cursor.x T.cursor.y T.cursor.sty fa j) (more F s u) ∧ Ch F s u)) (fun j => (fb - fa).toNat - j) 0 (by simp) ?_ ?_
 ·exact ⟨Nat.zero_le _, (TermAt.eq' bj rfl), aA⟩
 intro j p bk cz D; obtain ⟨hj, aB, q⟩ := bk; have N := qz q bi (fun b hb => f.hi b hb); have O := ay.ch q (fun h => by have := hI.lt _ h; omega); have G : Lim W H (qdw T kk T.cursor.x T.cursor.y T.cursor.sty fa j) := (qfM hL _ _ _ _ _ _)
 generalize k : (qdw T kk T.cursor.x T.cursor.y T.cursor.sty fa j) = d at aB G; have bl := G; have cA := bl.all; obtain ⟨bm, cB, cC, cD, cE, cF, cG, cH, cI, cJ, cK, cL, m⟩ := aB; obtain ⟨cM, V⟩ := m.g1.head; have cN : Df t bm := fun e => m.t1 (e ▸ m.g1.inF); refine ys <| yx 3 <| yc (rL (fa + ((j : Nat) : Int)) fb) (fun bo => ?_) fun bo => ?_
 ·refine yk <| ys <| q8 <| q8 <| ysr <| yq 3 <| yw [36] (rE kk 2) (fun B => ?_) fun B => ?_
  ·refine yz 21 <| yct <| yD [13] fun bp cO P => ?_; have X := zt (Ch.refl (· = t) p) P eZ; have bq := qz P N (fun _ h => h.elim); have br := O.ch P id; have ag := m.blk.ch P id; have bs := V.ch P id; refine yd (uL 0 13) [] (.l (ag.c 0) (.l (ag.c 0) (.l (bs.c 0) (.a (br.cs 0 5) .z)))) ?_; have aC := m.scalar (T' := d) X ag rfl rfl rfl rfl; have ah := Ch.on q X n; have cP := aC.pk2 X f ah; have Y := aC.mono (F' := more F s bp) (fun b hb => hb.elim .inl (fun C => .inr ⟨C.1, by have := zs X; omega⟩)) (f.moreOk ah.size); refine yK 13 (yQ (qaK _ _ _ ((fa + ((j : Nat) : Int))) (0) (d.grid.w) T.cursor.sty _ bq.tb Y.g1) ?_); rintro aD ⟨bt, ai⟩; obtain ⟨aE, bu⟩ := TermAt.next M ah (Y.chF ai) ⟨_, _, _, _, _, _, _, _, _, _, _, _, Y.grid1 ai bt (fun _ h => h)⟩; have cQ := Y.chF ai; have aF : Lim W H ({ d with grid := (qT d.grid ((fa + ((j : Nat) : Int))) (0) (d.grid.w) T.cursor.sty) } : TS) := G.grid (qad _ _ _ _ _); generalize bv : ({ d with grid := (qT d.grid ((fa + ((j : Nat) : Int))) (0) (d.grid.w) T.cursor.sty) } : TS) = T79 at aE aF; have bw := aF; have cR := bw.all; obtain ⟨bx, cS, cT, cU, cV, cW, cX, cY, cZ, d0, d1, d2, Z⟩ := aE; obtain ⟨d3, d4⟩ := Z.g1.head; have d5 : Df t bx := fun e => Z.t1 (e ▸ Z.g1.inF); refine q9 <| yDe (nB (nB (nS ?_))); refine q7 <| yp 3 [] (.q6 ((fa + ((j : Nat) : Int)) + 1) .z) ?_; have aG := Ch.on bu (Ch.refl (· = t) aD) n; have bz := Z.pk2 (Ch.refl (· = t) aD) f aG; refine yE (fun a ha => D (j + 1) _ ⟨(by omega), (TermAt.eq' bz (by subst bv; rw [← k]; show qaG _ _ _ _ _ _ = _; rw [k]; simp only [qaG, qca, B, ↓reduceIte, Int.reduceEq, and_true, true_and, and_false, false_and, or_true, true_or, or_false, false_or])), aG⟩ (by show (fb - fa).toNat - (j + 1) < (fb - fa).toNat - j; omega) a (by rw [show (fa + ((j + 1 : Nat) : Int)) = (fa + ((j : Nat) : Int)) + 1 by omega]; exact ha.kp [0, 1, 3, 8, 9, 10, 11]))
  refine yq 6 <| yw [39] (rE kk 0) (fun E => ?_) fun E => ?_
  ·refine yq 12 <| yw [45] (rL T.cursor.y (fa + ((j : Nat) : Int))) (fun v => ?_) fun v => ?_
   ·refine yz 21 <| yct <| yD [13] fun bA d6 Q => ?_; have a0 := zt (Ch.refl (· = t) p) Q eZ; have bB := qz Q N (fun _ h => h.elim); have bC := O.ch Q id; have aj := m.blk.ch Q id; have bD := V.ch Q id; refine yd (uL 0 13) [] (.l (aj.c 0) (.l (aj.c 0) (.l (bD.c 0) (.a (bC.cs 0 5) .z)))) ?_; have aH := m.scalar (T' := d) a0 aj rfl rfl rfl rfl; have ak := Ch.on q a0 n; have d7 := aH.pk2 a0 f ak; have a1 := aH.mono (F' := more F s bA) (fun b hb => hb.elim .inl (fun C => .inr ⟨C.1, by have := zs a0; omega⟩)) (f.moreOk ak.size); refine yK 13 (yQ (qaK _ _ _ ((fa + ((j : Nat) : Int))) (0) (d.grid.w) T.cursor.sty _ bB.tb a1.g1) ?_); rintro aI ⟨bE, al⟩; obtain ⟨aJ, bF⟩ := TermAt.next M ak (a1.chF al) ⟨_, _, _, _, _, _, _, _, _, _, _, _, a1.grid1 al bE (fun _ h => h)⟩; have d8 := a1.chF al; have aK : Lim W H ({ d with grid := (qT d.grid ((fa + ((j : Nat) : Int))) (0) (d.grid.w) T.cursor.sty) } : TS) := G.grid (qad _ _ _ _ _); generalize bG : ({ d with grid := (qT d.grid ((fa + ((j : Nat) : Int))) (0) (d.grid.w) T.cursor.sty) } : TS) = T106 at aJ aK; have bH := aK; have d9 := bH.all; obtain ⟨bI, da, db, dc, dd, de, df, dg, dh, di, dj, dk, a2⟩ := aJ; obtain ⟨dl, dm⟩ := a2.g1.head; have dn : Df t bI := fun e => a2.t1 (e ▸ a2.g1.inF); refine q9 <| yDe (nB (nB (nS ?_))); refine q7 <| yp 3 [] (.q6 ((fa + ((j : Nat) : Int)) + 1) .z) ?_; have aL := Ch.on bF (Ch.refl (· = t) aI) n; have bJ := a2.pk2 (Ch.refl (· = t) aI) f aL; refine yE (fun a ha => D (j + 1) _ ⟨(by omega), (TermAt.eq' bJ (by subst bG; rw [← k]; show qaG _ _ _ _ _ _ = _; rw [k]; simp only [qaG, qca, B, E, v, ↓reduceIte, Int.reduceEq, and_true, true_and, and_false, false_and, or_true, true_or, or_false, false_or])), aL⟩ (by show (fb - fa).toNat - (j + 1) < (fb - fa).toNat - j; omega) a (by rw [show (fa + ((j + 1 : Nat) : Int)) = (fa + ((j : Nat) : Int)) + 1 by omega]; exact ha.kp [0, 1, 3, 8, 9, 10, 11]))
   refine yq 15 <| yw [48] (rE kk 1) (fun r => ?_) fun r => ?_
   ·exfalso; omega
   refine yz 21 <| ycf <| ysr <| yq 3 <| yw [71] (rE kk 0) (fun A => ?_) fun A => ?_
   ·refine yz 8 <| yc (rE (fa + ((j : Nat) : Int)) T.cursor.y) (fun I => ?_) fun I => ?_
    ·refine yD [14] fun bK dp R => ?_; have a3 := zt (Ch.refl (· = t) p) R eZ; have bL := qz R N (fun _ h => h.elim); have bM := O.ch R id; have am := m.blk.ch R id; have bN := V.ch R id; refine yd (uL 0 14) [] (.l (am.c 0) (.l (am.c 0) (.l (bN.c 0) (.a (bM.cs 0 5) .z)))) ?_; have aM := m.scalar (T' := d) a3 am rfl rfl rfl rfl; have an := Ch.on q a3 n; have dq := aM.pk2 a3 f an; have a4 := aM.mono (F' := more F s bK) (fun b hb => hb.elim .inl (fun C => .inr ⟨C.1, by have := zs a3; omega⟩)) (f.moreOk an.size); refine yK 14 (yQ (qaK _ _ _ ((fa + ((j : Nat) : Int))) (T.cursor.x) (d.grid.w) T.cursor.sty _ bL.tb a4.g1) ?_); rintro aN ⟨bO, ao⟩; obtain ⟨aO, bP⟩ := TermAt.next M an (a4.chF ao) ⟨_, _, _, _, _, _, _, _, _, _, _, _, a4.grid1 ao bO (fun _ h => h)⟩; have dr := a4.chF ao; have aP : Lim W H ({ d with grid := (qT d.grid ((fa + ((j : Nat) : Int))) (T.cursor.x) (d.grid.w) T.cursor.sty) } : TS) := G.grid (qad _ _ _ _ _); generalize bQ : ({ d with grid := (qT d.grid ((fa + ((j : Nat) : Int))) (T.cursor.x) (d.grid.w) T.cursor.sty) } : TS) = T134 at aO aP; have bR := aP; have ds := bR.all; obtain ⟨bS, dt, du, dv, dw, dx, dy, dz, dA, dB, dC, dD, a5⟩ := aO; obtain ⟨dE, dF⟩ := a5.g1.head; have dG : Df t bS := fun e => a5.t1 (e ▸ a5.g1.inF); refine q9 <| yDe (nB (nB (nS ?_))); refine q7 <| yp 3 [] (.q6 ((fa + ((j : Nat) : Int)) + 1) .z) ?_; have aQ := Ch.on bP (Ch.refl (· = t) aN) n; have bT := a5.pk2 (Ch.refl (· = t) aN) f aQ; refine yE (fun a ha => D (j + 1) _ ⟨(by omega), (TermAt.eq' bT (by subst bQ; rw [← k]; show qaG _ _ _ _ _ _ = _; rw [k]; simp only [qaG, qca, B, E, v, r, A, eq_true I, ↓reduceIte, Int.reduceEq, and_true, true_and, and_false, false_and, or_true, true_or, or_false, false_or])), aQ⟩ (by show (fb - fa).toNat - (j + 1) < (fb - fa).toNat - j; omega) a (by rw [show (fa + ((j + 1 : Nat) : Int)) = (fa + ((j : Nat) : Int)) + 1 by omega]; exact ha.kp [0, 1, 3, 8, 9, 10, 11]))
    refine ysr <| yq 3 <| yw [94] (rE kk 1) (fun J => ?_) fun J => ?_
    ·exfalso; omega
    refine yz 8 <| ycf <| qp (nB (nB (nS ?_))); refine q7 <| yp 3 [] (.q6 ((fa + ((j : Nat) : Int)) + 1) .z) ?_; have aR := Ch.on q (Ch.refl (· = t) p) n; have bU := m.pk2 (Ch.refl (· = t) p) f aR; refine yE (fun a ha => D (j + 1) _ ⟨(by omega), (TermAt.eq' bU (by rw [← k]; show qaG _ _ _ _ _ _ = _; rw [k]; simp only [qaG, qca, B, E, v, r, A, I, J, ↓reduceIte, Int.reduceEq, and_true, true_and, and_false, false_and, or_true, true_or, or_false, false_or])), aR⟩ (by show (fb - fa).toNat - (j + 1) < (fb - fa).toNat - j; omega) a (by rw [show (fa + ((j + 1 : Nat) : Int)) = (fa + ((j : Nat) : Int)) + 1 by omega]; exact ha.kp [0, 1, 3, 8, 9, 10, 11]))
   exfalso; omega
  refine yq 15 <| yw [48] (rE kk 1) (fun v => ?_) fun v => ?_
  ·refine yz 21 <| yc (rL (fa + ((j : Nat) : Int)) T.cursor.y) (fun r => ?_) fun r => ?_
   ·refine yD [13] fun bV dH S => ?_; have a6 := zt (Ch.refl (· = t) p) S eZ; have bW := qz S N (fun _ h => h.elim); have bX := O.ch S id; have ap := m.blk.ch S id; have bY := V.ch S id; refine yd (uL 0 13) [] (.l (ap.c 0) (.l (ap.c 0) (.l (bY.c 0) (.a (bX.cs 0 5) .z)))) ?_; have aS := m.scalar (T' := d) a6 ap rfl rfl rfl rfl; have aq := Ch.on q a6 n; have dI := aS.pk2 a6 f aq; have a7 := aS.mono (F' := more F s bV) (fun b hb => hb.elim .inl (fun C => .inr ⟨C.1, by have := zs a6; omega⟩)) (f.moreOk aq.size); refine yK 13 (yQ (qaK _ _ _ ((fa + ((j : Nat) : Int))) (0) (d.grid.w) T.cursor.sty _ bW.tb a7.g1) ?_); rintro aT ⟨bZ, ar⟩; obtain ⟨aU, c0⟩ := TermAt.next M aq (a7.chF ar) ⟨_, _, _, _, _, _, _, _, _, _, _, _, a7.grid1 ar bZ (fun _ h => h)⟩; have dJ := a7.chF ar; have aV : Lim W H ({ d with grid := (qT d.grid ((fa + ((j : Nat) : Int))) (0) (d.grid.w) T.cursor.sty) } : TS) := G.grid (qad _ _ _ _ _); generalize c1 : ({ d with grid := (qT d.grid ((fa + ((j : Nat) : Int))) (0) (d.grid.w) T.cursor.sty) } : TS) = T164 at aU aV; have c2 := aV; have dK := c2.all; obtain ⟨c3, dL, dM, dN, dO, dP, dQ, dR, dS, dT, dU, dV, a8⟩ := aU; obtain ⟨dW, dX⟩ := a8.g1.head; have dY : Df t c3 := fun e => a8.t1 (e ▸ a8.g1.inF); refine q9 <| yDe (nB (nB (nS ?_))); refine q7 <| yp 3 [] (.q6 ((fa + ((j : Nat) : Int)) + 1) .z) ?_; have aW := Ch.on c0 (Ch.refl (· = t) aT) n; have c4 := a8.pk2 (Ch.refl (· = t) aT) f aW; refine yE (fun a ha => D (j + 1) _ ⟨(by omega), (TermAt.eq' c4 (by subst c1; rw [← k]; show qaG _ _ _ _ _ _ = _; rw [k]; simp only [qaG, qca, B, E, v, r, ↓reduceIte, Int.reduceEq, and_true, true_and, and_false, false_and, or_true, true_or, or_false, false_or])), aW⟩ (by show (fb - fa).toNat - (j + 1) < (fb - fa).toNat - j; omega) a (by rw [show (fa + ((j + 1 : Nat) : Int)) = (fa + ((j : Nat) : Int)) + 1 by omega]; exact ha.kp [0, 1, 3, 8, 9, 10, 11]))
   refine ysr <| yq 3 <| yw [71] (rE kk 0) (fun A => ?_) fun A => ?_
   ·exfalso; omega
   refine yz 8 <| ycf <| ysr <| yq 3 <| yw [94] (rE kk 1) (fun I => ?_) fun I => ?_
   ·refine yz 8 <| yc (rE (fa + ((j : Nat) : Int)) T.cursor.y) (fun J => ?_) fun J => ?_
    ·refine yD [8] fun c5 dZ a9 => ?_; have aa := zt (Ch.refl (· = t) p) a9 eZ; have c6 := qz a9 N (fun _ h => h.elim); have c7 := O.ch a9 id; have aX := m.blk.ch a9 id; refine yd (uL 0 8) [] (.l (aX.c 0) (.q6 (T.cursor.x + 1) (.a (c7.cs 0 5) .z))) ?_; have aY := m.scalar (T' := d) aa aX rfl rfl rfl rfl; have au := Ch.on q aa n; have e0 := aY.pk2 aa f au; have ab := aY.mono (F' := more F s c5) (fun b hb => hb.elim .inl (fun C => .inr ⟨C.1, by have := zs aa; omega⟩)) (f.moreOk au.size); refine yK 8 (yQ (qaK _ _ _ ((fa + ((j : Nat) : Int))) (0) ((T.cursor.x + 1)) T.cursor.sty _ c6.tb ab.g1) ?_); rintro aZ ⟨c8, av⟩; obtain ⟨b0, c9⟩ := TermAt.next M au (ab.chF av) ⟨_, _, _, _, _, _, _, _, _, _, _, _, ab.grid1 av c8 (fun _ h => h)⟩; have e1 := ab.chF av; have b1 : Lim W H ({ d with grid := (qT d.grid ((fa + ((j : Nat) : Int))) (0) ((T.cursor.x + 1)) T.cursor.sty) } : TS) := G.grid (qad _ _ _ _ _); generalize ca : ({ d with grid := (qT d.grid ((fa + ((j : Nat) : Int))) (0) ((T.cursor.x + 1)) T.cursor.sty) } : TS) = T192 at b0 b1; have cb := b1; have e2 := cb.all; obtain ⟨cc, e3, e4, e5, e6, e7, e8, e9, ea, eb, ec, ed, ac⟩ := b0; obtain ⟨ee, ef⟩ := ac.g1.head; have eg : Df t cc := fun e => ac.t1 (e ▸ ac.g1.inF); refine q9 <| yDe (nB (nB (nS ?_))); refine q7 <| yp 3 [] (.q6 ((fa + ((j : Nat) : Int)) + 1) .z) ?_; have b2 := Ch.on c9 (Ch.refl (· = t) aZ) n; have cd := ac.pk2 (Ch.refl (· = t) aZ) f b2; refine yE (fun a ha => D (j + 1) _ ⟨(by omega), (TermAt.eq' cd (by subst ca; rw [← k]; show qaG _ _ _ _ _ _ = _; rw [k]; simp only [qaG, qca, B, E, v, r, A, I, eq_true J, ↓reduceIte, Int.reduceEq, and_true, true_and, and_false, false_and, or_true, true_or, or_false, false_or])), b2⟩ (by show (fb - fa).toNat - (j + 1) < (fb - fa).toNat - j; omega) a (by rw [show (fa + ((j + 1 : Nat) : Int)) = (fa + ((j : Nat) : Int)) + 1 by omega]; exact ha.kp [0, 1, 3, 8, 9, 10, 11]))
    refine qp (nB (nB (nS ?_))); refine q7 <| yp 3 [] (.q6 ((fa + ((j : Nat) : Int)) + 1) .z) ?_; have b3 := Ch.on q (Ch.refl (· = t) p) n; have ce := m.pk2 (Ch.refl (· = t) p) f b3; refine yE (fun a ha => D (j + 1) _ ⟨(by omega), (TermAt.eq' ce (by rw [← k]; show qaG _ _ _ _ _ _ = _; rw [k]; simp only [qaG, qca, B, E, v, r, A, I, J, ↓reduceIte, Int.reduceEq, and_true, true_and, and_false, false_and, or_true, true_or, or_false, false_or])), b3⟩ (by show (fb - fa).toNat - (j + 1) < (fb - fa).toNat - j; omega) a (by rw [show (fa + ((j + 1 : Nat) : Int)) = (fa + ((j : Nat) : Int)) + 1 by omega]; exact ha.kp [0, 1, 3, 8, 9, 10, 11]))
   exfalso; omega
  refine yz 21 <| ycf <| ysr <| yq 3 <| yw [71] (rE kk 0) (fun r => ?_) fun r => ?_
  ·exfalso; omega
  refine yz 8 <| ycf <| ysr <| yq 3 <| yw [94] (rE kk 1) (fun A => ?_) fun A => ?_
  ·exfalso; omega
  refine yz 8 <| ycf <| qp (nB (nB (nS ?_))); refine q7 <| yp 3 [] (.q6 ((fa + ((j : Nat) : Int)) + 1) .z) ?_; have b4 := Ch.on q (Ch.refl (· = t) p) n; have cf := m.pk2 (Ch.refl (· = t) p) f b4; refine yE (fun a ha => D (j + 1) _ ⟨(by omega), (TermAt.eq' cf (by rw [← k]; show qaG _ _ _ _ _ _ = _; rw [k]; simp only [qaG, qca, B, E, v, r, A, ↓reduceIte, Int.reduceEq, and_true, true_and, and_false, false_and, or_true, true_or, or_false, false_or])), b4⟩ (by show (fb - fa).toNat - (j + 1) < (fb - fa).toNat - j; omega) a (by rw [show (fa + ((j + 1 : Nat) : Int)) = (fa + ((j : Nat) : Int)) + 1 by omega]; exact ha.kp [0, 1, 3, 8, 9, 10, 11]))
 have cg : j = (fb - fa).toNat := by omega
 refine qk (eS (qf (qe (qM ?_)))); have aw := Ch.on q (Ch.refl (· = t) p) n; have ci := m.pk2 (Ch.refl (· = t) p) f aw; subst k; subst cg; refine ⟨rfl, TermAt.eq' (ci.mono (qr af.size) (hI.moreOk (Nat.le_trans af.size aw.size))) rfl, zt af aw iZ⟩
end Go.Proofs.YtclnfbmmaofpjaaGreatDoor.X
