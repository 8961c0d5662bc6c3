/- What the proof of StateBytes needs, part 6: the walks of the program's functions and the plain laws about them. -/
import Derived.Test.YtclnfbmmaofpjaaGreatDoorQM5
import Derived.Test.YtclnfbmmaofpjaaGreatDoorRows
import Derived.ProofKit
import Derived.OpenShut
import Derived.ChangeArms
import Derived.LaidMore
import Derived.Lay
import Derived.Stop.Joined
import Derived.Below
import Derived.SevenTiedAt
import Derived.Deep.Slices
import Derived.Carry
set_option linter.unusedSimpArgs false
set_option linter.unusedVariables false
namespace Go.Proofs.YtclnfbmmaofpjaaGreatDoor.X
open Go Go.RowKit Go.Proofs.YtclnfbmmaofpjaaGreatDoor
theorem qmp (k : IntKind) (hk : k = .i64 ∨ k = .u64) {x : Int} (h0 : 0 ≤ x) (h1 : x < 9223372036854775808) (i : Nat) (hi : i < 64) : ((ql .and k (Int.fdiv x (2 ^ min ((i : Nat) : Int).toNat (IntKind.bits k))) 1 : Int) == 1) = qes x.toNat i := by
 have := bit_eq k hk (n := x.toNat) (i := i) (by omega) hi; rwa [Int.toNat_of_nonneg h0] at this
theorem i63 {x : Int} (h : x ≤ 9223372036854775807) : x < 9223372036854775808 := by omega
theorem qcW {x : Int} (h0 : 0 ≤ x) (h1 : x < 9223372036854775808) (I : Int) (i : Nat) (hi : i < 64) (hI : I = ((i : Nat) : Int)) : ((ql .and .i64 (Int.fdiv x (2 ^ min I.toNat (IntKind.bits .i64))) 1 : Int) == 1) = qes x.toNat i := by
 subst hI; exact qmp .i64 (.inl rfl) h0 h1 i hi
theorem qkt (tb : Nat) : qi5 tb 0 = qgD 7 := by funext i; simp [qi5]
def qez (w h top bot n tb : Int) (k : Nat) : TS := { qgY w h top bot n tb with tabs := qi5 tb.toNat k }
theorem TermIn.eqT {w : World} {t g o : Nat} {ba : Option Addr} {bn bc : Nat} {pa : Option Addr} {pn pc : Nat} {T T' : TS} {F F1 F2 FB FP : Nat → Prop} (h : TermIn w t g o ba bn bc pa pn pc T F F1 F2 FB FP) (e : T = T') : TermIn w t g o ba bn bc pa pn pc T' F F1 F2 FB FP := e ▸ h
def flK (w h top bot n : Int) (k : Nat) : TS := { qa3 zeroT w h with top := top, bot := bot, wrap := if 0 < k then qes n.toNat 0 else true, origin := if 1 < k then qes n.toNat 1 else false, insert := if 2 < k then qes n.toNat 2 else false, hidden := if 3 < k then qes n.toNat 3 else false, alt := if 4 < k then qes n.toNat 4 else false, draw0 := if 5 < k then qes n.toNat 5 else false, draw1 := if 6 < k then qes n.toNat 6 else false, shift := if 7 < k then qes n.toNat 7 else false }
theorem flK_end (w h top bot n tb : Int) : flK w h top bot n 8 = qez w h top bot n tb 0 := by
 unfold qez; rw [qkt]; rfl
theorem qku {w h top bot n tb : Int} {k : Nat} {v : Bool} (hv : v = qes tb.toNat k) : ({ qez w h top bot n tb k with tabs := fun i => if i = ((k : Nat) : Int).toNat then v else (qez w h top bot n tb k).tabs i } : TS) = qez w h top bot n tb (k + 1) := by
 have : (fun i => if i = ((k : Nat) : Int).toNat then v else qi5 tb.toNat k i) = qi5 tb.toNat (k + 1) := by
  funext i; rw [Int.toNat_natCast, hv]; unfold qi5; by_cases h : i = k
  ·subst h; rw [if_pos rfl, if_pos (Nat.lt_succ_self i)]
  rw [if_neg h]; by_cases a : i < k
  ·rw [if_pos a, if_pos (by omega)]
  rw [if_neg a, if_neg (by omega)]
 show ({ qgY w h top bot n tb with tabs := fun i => if i = ((k : Nat) : Int).toNat then v else qi5 tb.toNat k i } : TS) = _; rw [this]; rfl
set_option maxHeartbeats 4000000 in
theorem qmq {sr rv D : Nat} {s0 s1 : RS} {ot : Option TS} {w : World} (hS : SrIn w sr rv D true s0) (hT : LT w) (hr7 : gTop ≤ rv) (hs7 : gTop ≤ sr) (hH : qgZ s0 = (ot, s1)) : Calls Tryz.prog 32 [pX sr].toArray w fun e w' =>
 ∃ v, e = .returned v ∧ SrIn w' sr rv D true s1 ∧ Ch (srB sr rv) w w' ∧ ((ot = none ∧ v = .pointer none) ∨ ∃ t T, ot = some T ∧ v = pX t ∧ TermAt w' t T (fun b => w.heap.size ≤ b ∧ b < w'.heap.size)) := by
 refine yA Tryz.func32 rfl <| yx 1 <| ys <| qG (· = rv) [9] (by kernel_rfl) (fun aR cV Z => ?_); have aS : Ch (srB sr rv) w aR := zt (Ch.refl (srB sr rv) w) Z eZ; have a0 := hS.blk.ch Z id; have aT := hS.rd.ch Z id id; refine ydC [0, 1, 2, 3, 5, 6, 7, 8] [] (fun u hu => (.l (qf hu (a0.c 0) hS.ne) (.l (qf hu (a0.c 0) hS.ne) .z))) ?_; obtain ⟨j, al, I⟩ : ∃ x s', qP (61) s0 = (x, s') := ⟨_, _, rfl⟩
 have am := qa7 (lim := 61) (s := s0); rw [I] at am; dsimp only at am; refine yH 4 (yQ (qZ (lim := 61) aT I (by omega)) ?_); rintro aU ⟨aV, a1⟩; have aW : Ch (srB sr rv) w aU := zt aS a1 (fun _ _ h => .inr h); have aX := a0.ch a1 hS.ne; refine qj a1 iZ ?_; obtain ⟨f, an, J⟩ : ∃ x s', qP (61) al = (x, s') := ⟨_, _, rfl⟩
 have ao := qa7 (lim := 61) (s := al); rw [J] at ao; dsimp only at ao; refine yK 9 (yQ (qZ (lim := 61) aV J (by omega)) ?_); rintro aY ⟨aZ, ap⟩; have b0 : Ch (srB sr rv) w aY := zt aW ap (fun _ _ h => .inr h); have b1 := aX.ch ap hS.ne; refine q9 <| yd [10, 11] [] .z <| yDe (nS ?_); refine ys <| qG (· = rv) [13] (by kernel_rfl) (fun b2 cW a2 => ?_); have b3 : Ch (srB sr rv) w b2 := zt b0 a2 eZ; have a3 := b1.ch a2 id; have b4 := aZ.ch a2 id id; refine ydC [0, 1, 2, 3, 4, 5, 7, 8, 9, 10, 11, 12] [] (fun u hu => (.l (qf hu (a3.c 0) hS.ne) (.q6 (f + 1) (.l (qf hu (a3.c 0) hS.ne) (.q6 (f + 1) .z))))) ?_; obtain ⟨m, aq, K⟩ : ∃ x s', qP ((f + 1)) an = (x, s') := ⟨_, _, rfl⟩
 have ar := qa7 (lim := (f + 1)) (s := an); rw [K] at ar; dsimp only at ar; refine yH 6 (yQ (qZ (lim := (f + 1)) b4 K (by omega)) ?_); rintro b5 ⟨b6, a4⟩; have b7 : Ch (srB sr rv) w b5 := zt b3 a4 (fun _ _ h => .inr h); have b8 := a3.ch a4 hS.ne; refine qj a4 iZ ?_; obtain ⟨n, au, L⟩ : ∃ x s', qP ((f + 1)) aq = (x, s') := ⟨_, _, rfl⟩
 have av := qa7 (lim := (f + 1)) (s := aq); rw [L] at av; dsimp only at av; refine yK 13 (yQ (qZ (lim := (f + 1)) b6 L (by omega)) ?_); rintro b9 ⟨bb, aw⟩; have bd : Ch (srB sr rv) w b9 := zt b7 aw (fun _ _ h => .inr h); have bf := b8.ch aw hS.ne; refine q9 <| yd [14, 15] [] .z <| yDe (nS ?_); refine ys <| qG (· = rv) [9] (by kernel_rfl) (fun bg cX a5 => ?_); have bh : Ch (srB sr rv) w bg := zt bd a5 eZ; have a6 := bf.ch a5 id; have bi := bb.ch a5 id id; refine ydC [0, 1, 2, 3, 5, 6, 7, 8] [] (fun u hu => (.l (qf hu (a6.c 0) hS.ne) (.l (qf hu (a6.c 0) hS.ne) .z))) ?_; obtain ⟨d, ax, M⟩ : ∃ x s', qP (256) au = (x, s') := ⟨_, _, rfl⟩
 have r := qa7 (lim := 256) (s := au); rw [M] at r; dsimp only at r; refine yH 4 (yQ (qZ (lim := 256) bi M (by omega)) ?_); rintro bj ⟨bk, a7⟩; have bl : Ch (srB sr rv) w bj := zt bh a7 (fun _ _ h => .inr h); have bm := a6.ch a7 hS.ne; refine qj a7 iZ ?_; obtain ⟨y, a8, N⟩ : ∃ x s', qP (1152921504606846976) ax = (x, s') := ⟨_, _, rfl⟩
 have U := qa7 (lim := 1152921504606846976) (s := ax); rw [N] at U; dsimp only at U; refine yK 9 (yQ (qZ (lim := 1152921504606846976) bk N (by omega)) ?_); rintro bo ⟨ay, az⟩; have bp : Ch (srB sr rv) w bo := zt bl az (fun _ _ h => .inr h); have aA := bm.ch az hS.ne; refine q9 <| yd (uL 10 3) [10] (.p (q := InR .u64 y) (qaO (by omega) (by omega)) .z) <| yDe (nS ?_); refine ys <| ysr <| yp 4 [] (.l (aA.c 0) .z) <| yo (yQ (qjs ay) fun V a9 => ?_); have F : Ch (srB sr rv) w V := zt bp a9 eZ; have O := aA.ch a9 id; have P := ay.ch a9 id id; refine yq 7 <| yw [55] (rN (rY a8.isSome)) (fun aa => ?_) fun aa => ?_
 ·have bq := aa; refine yz 19 <| yct <| yx 1 <| qe (rS (yR1 (.pointer none) ?_)); rw [qdb I J K L M N] at hH; rw [if_pos (.inl bq)] at hH; simp only [Prod.mk.injEq] at hH; obtain ⟨rfl, rfl⟩ := hH; exact ⟨_, rfl, ⟨O, P, hS.ne, hS.nd⟩, F, .inl ⟨rfl, rfl⟩⟩
 have br := aa; refine yq 11 <| yw [59] (rL j 1) (fun ab => ?_) fun ab => ?_
 ·have cY := ab; refine yz 19 <| yct <| yx 1 <| qe (rS (yR1 (.pointer none) ?_)); rw [qdb I J K L M N] at hH; rw [if_pos (.inr (.inl (by omega)))] at hH; simp only [Prod.mk.injEq] at hH; obtain ⟨rfl, rfl⟩ := hH; exact ⟨_, rfl, ⟨O, P, hS.ne, hS.nd⟩, F, .inl ⟨rfl, rfl⟩⟩
 have cZ := ab; refine yq 15 <| yw [63] (rL f 1) (fun ac => ?_) fun ac => ?_
 ·have d0 := ac; refine yz 19 <| yct <| yx 1 <| qe (rS (yR1 (.pointer none) ?_)); rw [qdb I J K L M N] at hH; rw [if_pos (.inr (.inr (.inl (by omega))))] at hH; simp only [Prod.mk.injEq] at hH; obtain ⟨rfl, rfl⟩ := hH; exact ⟨_, rfl, ⟨O, P, hS.ne, hS.nd⟩, F, .inl ⟨rfl, rfl⟩⟩
 have d1 := ac; refine yz 19 <| yc (rM n m) (fun ad => ?_) fun ad => ?_
 ·have d2 := ad; refine yx 1 <| qe (rS (yR1 (.pointer none) ?_)); rw [qdb I J K L M N] at hH; rw [if_pos (.inr (.inr (.inr (by omega))))] at hH; simp only [Prod.mk.injEq] at hH; obtain ⟨rfl, rfl⟩ := hH; exact ⟨_, rfl, ⟨O, P, hS.ne, hS.nd⟩, F, .inl ⟨rfl, rfl⟩⟩
 have d3 := ad; refine yk <| ysr <| yq 2 <| yo (yC (qgO j f _ (qy F hT (fun b h => h.elim (fun (h : b = sr) => by omega) (fun (h : b = rv) => by omega))) (by have := hS.rd.lt; have := zs F; omega)) ?_); rintro _ C ⟨t, rfl, bs, ae⟩; refine ⟨_, rfl, ?_⟩; have d4 : gTop ≤ w.heap.size := by have := hS.rd.lt; omega
 obtain ⟨g, o, ba, bn, bc, pa, pn, pc, Q, R, FB, FP, hI⟩ := bs; have bt := hI.inF.1.1; have G : w.heap.size ≤ t := Nat.le_trans (zs F) bt; have bu : Ch (srB sr rv) w C := zt F ae eZ; have bv := O.ch ae id; have bw := P.ch ae id id; refine yz 4 <| ysr <| yq 6 <| yo (yS hI.blk fun bx bz bA => ?_); have bB : Ch (· = t) C bx := zt (Ch.refl (· = t) C) bA iZ; have bC : Blk _ t (TS.vals ({ (qa3 zeroT j f) with top := m } : TS) g o (.slice ba bn bc) (.slice pa pn pc)) qae := Blk.to bz (by kernel_rfl); refine yq 9 <| yo (yS bC fun bD bE bF => ?_); have bG : Ch (· = t) C bD := zt bB bF iZ; have bH : Blk _ t (TS.vals ({ (qa3 zeroT j f) with top := m, bot := n } : TS) g o (.slice ba bn bc) (.slice pa pn pc)) qae := Blk.to bE (by kernel_rfl); refine ye <| ys <| yD [27, 28] fun bI d5 aB => ?_; have aC : Ch (· = t) C bI := zt bG aB eZ; have aD := bH.ch aB id; refine ydT (uL 0 27) [] rfl (fun _ => (.i 0 (2) (.i 1 (2) .z))) <| yK 27 (yN [.pointer none, .pointer none, .pointer none, .pointer none, .pointer none, .pointer none, .pointer none, .pointer none] 105 fun bJ af bK d6 bL aE => ?_); have bM : Ch (· = t) C bJ := zt aC aE eZ; have bN : C.heap.size ≤ af := by rw [bK]; exact zs aC
 have bO := aD.ch aE id; refine q9 <| yK 28 (yT [.pointer (some ⟨t, 88, none⟩), .pointer (some ⟨t, 89, none⟩), .pointer (some ⟨t, 90, none⟩), .pointer (some ⟨t, 91, none⟩), .pointer (some ⟨t, 95, none⟩), .pointer (some ⟨t, 92, none⟩), .pointer (some ⟨t, 93, none⟩), .pointer (some ⟨t, 94, none⟩)] bL fun bP bQ aF => ?_); have aG : Ch (· = t) C bP := zt bM aF (fun i hi (h : i = af) => by have := bN; omega); have bR := bO.ch aF (fun (h : t = af) => by have := aD.lt; omega); refine q9 <| yDe (nS ?_); refine qb9 ([(8, .int .u64 y), (9, pX t)]) (fun u => TermIn u t g o ba bn bc pa pn pc (qez j f m n d y 0) (fun b => V.heap.size ≤ b ∧ b < C.heap.size) Q R FB FP ∧ Blk u sr [pX rv, .bool true] tSr ∧ RdrAt u rv D a8 ∧ Ch (srB sr rv) w u) (fun d7 bS => ?_) (fun u138 bT => ?_)
 ·refine ysr <| yp 2 [] (.a (bQ.cs 0 8) .z) <| ye <| q8 ?_; have bU := hI.scalar (T' := ({ (qa3 zeroT j f) with top := m, bot := n } : TS)) aG bR rfl rfl rfl rfl; refine qT [7, 8, 9, 106, 107] (f' := [(7, iX d), (8, .int .u64 y), (9, pX t), (106, .agg #[.pointer (some ⟨t, 88, none⟩), .pointer (some ⟨t, 89, none⟩), .pointer (some ⟨t, 90, none⟩), .pointer (some ⟨t, 91, none⟩), .pointer (some ⟨t, 95, none⟩), .pointer (some ⟨t, 92, none⟩), .pointer (some ⟨t, 93, none⟩), .pointer (some ⟨t, 94, none⟩)]), (107, iX 0)]) <| qz (σ := Nat) (fun k => [(7, iX d), (8, .int .u64 y), (9, pX t), (106, .agg #[.pointer (some ⟨t, 88, none⟩), .pointer (some ⟨t, 89, none⟩), .pointer (some ⟨t, 90, none⟩), .pointer (some ⟨t, 91, none⟩), .pointer (some ⟨t, 95, none⟩), .pointer (some ⟨t, 92, none⟩), .pointer (some ⟨t, 93, none⟩), .pointer (some ⟨t, 94, none⟩)]), (107, iX ((k : Nat) : Int))]) (fun k u => k ≤ 8 ∧ TermIn u t g o ba bn bc pa pn pc (flK j f m n d k) (fun b => V.heap.size ≤ b ∧ b < C.heap.size) Q R FB FP ∧ Ch (· = t) C u) (fun k => 8 - k) 0 rfl ?_ ?_
  ·exact ⟨Nat.zero_le _, TermIn.eqT bU rfl, aG⟩
  intro k B bV d8 H; obtain ⟨d9, A, E⟩ := bV; refine yx 1 <| ys <| yc (rL ((k : Nat) : Int) 8) (fun ag => ?_) fun ag => ?_
  ·have da := ag; rcases (by omega : k = 0 ∨ k = 1 ∨ k = 2 ∨ k = 3 ∨ k = 4 ∨ k = 5 ∨ k = 6 ∨ k = 7) with rfl | rfl | rfl | rfl | rfl | rfl | rfl | rfl
   ·refine yk <| ys <| q8 <| yx 4 <| q7 <| yp 7 [] (.p (q := 0 ≤ (0 : Int)) (by omega) .z) <| yo (yS A.blk fun bW bX bY => ?_); have aH : Ch (· = t) B bW := zt (Ch.refl (· = t) B) bY iZ; have bZ : Blk _ t (TS.vals ({ (flK j f m n d 0) with wrap := (((ql .and .i64 (Int.fdiv d (2 ^ min (0 : Int).toNat (IntKind.bits .i64))) 1) : Int) == 1) } : TS) g o (.slice ba bn bc) (.slice pa pn pc)) qae := Blk.to bX (by kernel_rfl); refine yE (nB (nS ?_)); refine q7 <| yp 2 [] (.q6 1 .z) ?_; have c0 := A.scalar (T' := ({ (flK j f m n d 0) with wrap := (((ql .and .i64 (Int.fdiv d (2 ^ min (0 : Int).toNat (IntKind.bits .i64))) 1) : Int) == 1) } : TS)) aH bZ rfl rfl rfl rfl; refine yE (fun a ha => H 1 _ ⟨by decide, TermIn.eqT c0 (by rw [qcW r.1 (i63 r.2.1) 0 0 (by decide) rfl]; rfl), zt E aH iZ⟩ (by show 8 - (0 + 1) < 8 - 0; omega) a (ha.kp [7, 8, 9, 106, 107]))
   ·refine yk <| ys <| q8 <| yx 4 <| q7 <| yp 7 [] (.p (q := 0 ≤ (1 : Int)) (by omega) .z) <| yo (yS A.blk fun c1 c2 c3 => ?_); have aI : Ch (· = t) B c1 := zt (Ch.refl (· = t) B) c3 iZ; have c4 : Blk _ t (TS.vals ({ (flK j f m n d 1) with origin := (((ql .and .i64 (Int.fdiv d (2 ^ min (1 : Int).toNat (IntKind.bits .i64))) 1) : Int) == 1) } : TS) g o (.slice ba bn bc) (.slice pa pn pc)) qae := Blk.to c2 (by kernel_rfl); refine yE (nB (nS ?_)); refine q7 <| yp 2 [] (.q6 2 .z) ?_; have c5 := A.scalar (T' := ({ (flK j f m n d 1) with origin := (((ql .and .i64 (Int.fdiv d (2 ^ min (1 : Int).toNat (IntKind.bits .i64))) 1) : Int) == 1) } : TS)) aI c4 rfl rfl rfl rfl; refine yE (fun a ha => H 2 _ ⟨by decide, TermIn.eqT c5 (by rw [qcW r.1 (i63 r.2.1) 1 1 (by decide) rfl]; rfl), zt E aI iZ⟩ (by show 8 - (1 + 1) < 8 - 1; omega) a (ha.kp [7, 8, 9, 106, 107]))
   ·refine yk <| ys <| q8 <| yx 4 <| q7 <| yp 7 [] (.p (q := 0 ≤ (2 : Int)) (by omega) .z) <| yo (yS A.blk fun c6 c7 c8 => ?_); have aJ : Ch (· = t) B c6 := zt (Ch.refl (· = t) B) c8 iZ; have c9 : Blk _ t (TS.vals ({ (flK j f m n d 2) with insert := (((ql .and .i64 (Int.fdiv d (2 ^ min (2 : Int).toNat (IntKind.bits .i64))) 1) : Int) == 1) } : TS) g o (.slice ba bn bc) (.slice pa pn pc)) qae := Blk.to c7 (by kernel_rfl); refine yE (nB (nS ?_)); refine q7 <| yp 2 [] (.q6 3 .z) ?_; have ca := A.scalar (T' := ({ (flK j f m n d 2) with insert := (((ql .and .i64 (Int.fdiv d (2 ^ min (2 : Int).toNat (IntKind.bits .i64))) 1) : Int) == 1) } : TS)) aJ c9 rfl rfl rfl rfl; refine yE (fun a ha => H 3 _ ⟨by decide, TermIn.eqT ca (by rw [qcW r.1 (i63 r.2.1) 2 2 (by decide) rfl]; rfl), zt E aJ iZ⟩ (by show 8 - (2 + 1) < 8 - 2; omega) a (ha.kp [7, 8, 9, 106, 107]))
   ·refine yk <| ys <| q8 <| yx 4 <| q7 <| yp 7 [] (.p (q := 0 ≤ (3 : Int)) (by omega) .z) <| yo (yS A.blk fun cb cc cd => ?_); have aK : Ch (· = t) B cb := zt (Ch.refl (· = t) B) cd iZ; have ce : Blk _ t (TS.vals ({ (flK j f m n d 3) with hidden := (((ql .and .i64 (Int.fdiv d (2 ^ min (3 : Int).toNat (IntKind.bits .i64))) 1) : Int) == 1) } : TS) g o (.slice ba bn bc) (.slice pa pn pc)) qae := Blk.to cc (by kernel_rfl); refine yE (nB (nS ?_)); refine q7 <| yp 2 [] (.q6 4 .z) ?_; have cf := A.scalar (T' := ({ (flK j f m n d 3) with hidden := (((ql .and .i64 (Int.fdiv d (2 ^ min (3 : Int).toNat (IntKind.bits .i64))) 1) : Int) == 1) } : TS)) aK ce rfl rfl rfl rfl; refine yE (fun a ha => H 4 _ ⟨by decide, TermIn.eqT cf (by rw [qcW r.1 (i63 r.2.1) 3 3 (by decide) rfl]; rfl), zt E aK iZ⟩ (by show 8 - (3 + 1) < 8 - 3; omega) a (ha.kp [7, 8, 9, 106, 107]))
   ·refine yk <| ys <| q8 <| yx 4 <| q7 <| yp 7 [] (.p (q := 0 ≤ (4 : Int)) (by omega) .z) <| yo (yS A.blk fun cg ci cj => ?_); have aL : Ch (· = t) B cg := zt (Ch.refl (· = t) B) cj iZ; have ck : Blk _ t (TS.vals ({ (flK j f m n d 4) with alt := (((ql .and .i64 (Int.fdiv d (2 ^ min (4 : Int).toNat (IntKind.bits .i64))) 1) : Int) == 1) } : TS) g o (.slice ba bn bc) (.slice pa pn pc)) qae := Blk.to ci (by kernel_rfl); refine yE (nB (nS ?_)); refine q7 <| yp 2 [] (.q6 5 .z) ?_; have cl := A.scalar (T' := ({ (flK j f m n d 4) with alt := (((ql .and .i64 (Int.fdiv d (2 ^ min (4 : Int).toNat (IntKind.bits .i64))) 1) : Int) == 1) } : TS)) aL ck rfl rfl rfl rfl; refine yE (fun a ha => H 5 _ ⟨by decide, TermIn.eqT cl (by rw [qcW r.1 (i63 r.2.1) 4 4 (by decide) rfl]; rfl), zt E aL iZ⟩ (by show 8 - (4 + 1) < 8 - 4; omega) a (ha.kp [7, 8, 9, 106, 107]))
   ·refine yk <| ys <| q8 <| yx 4 <| q7 <| yp 7 [] (.p (q := 0 ≤ (5 : Int)) (by omega) .z) <| yo (yS A.blk fun cm cn co => ?_); have aM : Ch (· = t) B cm := zt (Ch.refl (· = t) B) co iZ; have cp : Blk _ t (TS.vals ({ (flK j f m n d 5) with draw0 := (((ql .and .i64 (Int.fdiv d (2 ^ min (5 : Int).toNat (IntKind.bits .i64))) 1) : Int) == 1) } : TS) g o (.slice ba bn bc) (.slice pa pn pc)) qae := Blk.to cn (by kernel_rfl); refine yE (nB (nS ?_)); refine q7 <| yp 2 [] (.q6 6 .z) ?_; have cq := A.scalar (T' := ({ (flK j f m n d 5) with draw0 := (((ql .and .i64 (Int.fdiv d (2 ^ min (5 : Int).toNat (IntKind.bits .i64))) 1) : Int) == 1) } : TS)) aM cp rfl rfl rfl rfl; refine yE (fun a ha => H 6 _ ⟨by decide, TermIn.eqT cq (by rw [qcW r.1 (i63 r.2.1) 5 5 (by decide) rfl]; rfl), zt E aM iZ⟩ (by show 8 - (5 + 1) < 8 - 5; omega) a (ha.kp [7, 8, 9, 106, 107]))
   ·refine yk <| ys <| q8 <| yx 4 <| q7 <| yp 7 [] (.p (q := 0 ≤ (6 : Int)) (by omega) .z) <| yo (yS A.blk fun cr ct cu => ?_); have aN : Ch (· = t) B cr := zt (Ch.refl (· = t) B) cu iZ; have cv : Blk _ t (TS.vals ({ (flK j f m n d 6) with draw1 := (((ql .and .i64 (Int.fdiv d (2 ^ min (6 : Int).toNat (IntKind.bits .i64))) 1) : Int) == 1) } : TS) g o (.slice ba bn bc) (.slice pa pn pc)) qae := Blk.to ct (by kernel_rfl); refine yE (nB (nS ?_)); refine q7 <| yp 2 [] (.q6 7 .z) ?_; have cw := A.scalar (T' := ({ (flK j f m n d 6) with draw1 := (((ql .and .i64 (Int.fdiv d (2 ^ min (6 : Int).toNat (IntKind.bits .i64))) 1) : Int) == 1) } : TS)) aN cv rfl rfl rfl rfl; refine yE (fun a ha => H 7 _ ⟨by decide, TermIn.eqT cw (by rw [qcW r.1 (i63 r.2.1) 6 6 (by decide) rfl]; rfl), zt E aN iZ⟩ (by show 8 - (6 + 1) < 8 - 6; omega) a (ha.kp [7, 8, 9, 106, 107]))
   refine yk <| ys <| q8 <| yx 4 <| q7 <| yp 7 [] (.p (q := 0 ≤ (7 : Int)) (by omega) .z) <| yo (yS A.blk fun cx cy cz => ?_); have aO : Ch (· = t) B cx := zt (Ch.refl (· = t) B) cz iZ; have cA : Blk _ t (TS.vals ({ (flK j f m n d 7) with shift := (((ql .and .i64 (Int.fdiv d (2 ^ min (7 : Int).toNat (IntKind.bits .i64))) 1) : Int) == 1) } : TS) g o (.slice ba bn bc) (.slice pa pn pc)) qae := Blk.to cy (by kernel_rfl); refine yE (nB (nS ?_)); refine q7 <| yp 2 [] (.q6 8 .z) ?_; have cB := A.scalar (T' := ({ (flK j f m n d 7) with shift := (((ql .and .i64 (Int.fdiv d (2 ^ min (7 : Int).toNat (IntKind.bits .i64))) 1) : Int) == 1) } : TS)) aO cA rfl rfl rfl rfl; refine yE (fun a ha => H 8 _ ⟨by decide, TermIn.eqT cB (by rw [qcW r.1 (i63 r.2.1) 7 7 (by decide) rfl]; rfl), zt E aO iZ⟩ (by show 8 - (7 + 1) < 8 - 7; omega) a (ha.kp [7, 8, 9, 106, 107]))
  have db := ag; have cC : k = 8 := by omega
  subst cC; refine qo (eS (qg (qd (fun a ha => bS _ ⟨TermIn.eqT A (flK_end j f m n d y), bv.ch E (fun (h : sr = t) => by have := G; have := hS.blk.lt; omega), bw.ch E (fun (h : rv = t) => by have := G; have := hS.rd.lt; omega) (fun (h : D = t) => by have := G; have := hS.rd.dlt; omega), zt bu E (fun i hi (h : i = t) => by have := G; omega)⟩ a (ha.kp [8, 9])))))
 obtain ⟨cD, cE, cF, cG⟩ := bT; refine ys <| yx 1 <| q8 <| qT [8, 9, 119] (f' := [(8, .int .u64 y), (9, pX t), (119, iX 0)]) <| qz (σ := Nat) (fun k => [(8, .int .u64 y), (9, pX t), (119, iX ((k : Nat) : Int))]) (fun k u => k ≤ 60 ∧ TermIn u t g o ba bn bc pa pn pc (qez j f m n d y k) (fun b => V.heap.size ≤ b ∧ b < C.heap.size) Q R FB FP ∧ Blk u sr [pX rv, .bool true] tSr ∧ RdrAt u rv D a8 ∧ Ch (srB sr rv) w u) (fun k => 60 - k) 0 rfl ?_ ?_
 ·exact ⟨Nat.zero_le _, cD, cE, cF, cG⟩
 intro k W cH dc cI; obtain ⟨hk, X, hB, hR, ah⟩ := cH; refine yx 1 <| ys <| yc (rL ((k : Nat) : Int) 60) (fun ai => ?_) fun ai => ?_
 ·have dd := ai; refine yk <| ys <| q8 <| yx 2 <| yD [10] fun aP de S => ?_; have cJ : Ch (srB sr rv) w aP := zt ah S eZ; have cK : Ch (· = t) W aP := zt (Ch.refl (· = t) W) S eZ; have cL := X.blk.ch S id; have cM := hB.ch S id; have cN := hR.ch S id id; refine yd (uL 0 10) [] (.p (q := 0 ≤ (((k : Nat) : Int) : Int)) (by omega) (.i ((k : Nat) : Int) (60) .z)) <| yK 10 (qa2 (28 + (((k : Nat) : Int) : Int).toNat * 1) [.bool (((ql .and .u64 (Int.fdiv y (2 ^ min (((k : Nat) : Int) : Int).toNat (IntKind.bits .u64))) 1) : Int) == 1)] none (by kernel_rfl) cL (by rw [qbt]; simp only [List.length_cons, List.length_nil]; omega) ?_); intro aj ak Y; replace ak : Blk aj t (TS.vals ({ (qez j f m n d y k) with tabs := (fun i => if i = (((k : Nat) : Int) : Int).toNat then (((ql .and .u64 (Int.fdiv y (2 ^ min (((k : Nat) : Int) : Int).toNat (IntKind.bits .u64))) 1) : Int) == 1) else (qez j f m n d y k).tabs i) } : TS) g o (.slice ba bn bc) (.slice pa pn pc)) qae := Blk.to ak (qeH (qez j f m n d y k) _ _ _ _ _ (by omega) _); have cO : Ch (srB sr rv) w aj := zt cJ Y (fun i hi (h : i = t) => by have := G; omega); have cP : Ch (· = t) W aj := zt cK Y iZ; have cQ := cM.ch Y (fun (h : sr = t) => by have := G; have := hS.blk.lt; omega); have cR := cN.ch Y (fun (h : rv = t) => by have := G; have := hS.rd.lt; omega) (fun (h : D = t) => by have := G; have := hS.rd.dlt; omega); refine q9 <| yDe (nB (nS ?_)); refine q7 <| yp 2 [] (.q6 (((k : Nat) : Int) + 1) .z) ?_
  have cS := X.scalar (T' := ({ (qez j f m n d y k) with tabs := (fun i => if i = (((k : Nat) : Int) : Int).toNat then (((ql .and .u64 (Int.fdiv y (2 ^ min (((k : Nat) : Int) : Int).toNat (IntKind.bits .u64))) 1) : Int) == 1) else (qez j f m n d y k).tabs i) } : TS)) cP ak rfl rfl rfl rfl; have aQ := cS; rw [qku (qmp .u64 (.inr rfl) U.1 (i63 U.2.1) k (by omega))] at aQ; refine yE (fun a ha => cI (k + 1) _ ⟨by omega, aQ, cQ, cR, cO⟩ (by show 60 - (k + 1) < 60 - k; omega) a (ha.kp [8, 9, 119]))
 have df := ai; refine qo (eS (qg (qd (nS ?_)))); refine yx 2 <| qe (yR1 (pX t) ?_); rw [qdb I J K L M N] at hH; rw [if_neg (by rintro (h | h | h | h); exact absurd (br.symm.trans h) (by decide); omega; omega; omega)] at hH; simp only [Prod.mk.injEq] at hH; obtain ⟨rfl, rfl⟩ := hH; have cT : k = 60 := by omega
 subst cT; have dg := zs F; have cU := X.lt; have dh := zs ah; exact ⟨_, rfl, ⟨hB, hR, hS.ne, hS.nd⟩, ah, .inr ⟨t, _, rfl, rfl, TermAt.mono ⟨g, o, ba, bn, bc, pa, pn, pc, Q, R, FB, FP, (show TermIn _ t g o ba bn bc pa pn pc (qgY j f m n d y) _ Q R FB FP from X)⟩ (fun b hb => ⟨by have := hb.1; omega, by have := cU b hb; have := zs (Ch.refl (· = t) W); omega⟩) (fun b hb => ⟨hb.2, by have := hb.1; omega⟩)⟩⟩
theorem qeN {T : TS} {W H : Int} {s s1 s2 s3 s4 s5 s6 s7 s8 s9 : RS} {a b c : Cur} {ha hb hc f4 f5 f6 f9 : Bool} {d e k : List (List Cel)} {t r : ByteArray} {p : PS}
  (h1 : qi3 W H s = (a, ha, s1)) (h2 : qi3 W H s1 = (b, hb, s2)) (h3 : qi3 W H s2 = (c, hc, s3)) (h4 : qag W H.toNat [] s3 ((ha && hb) && hc) = (d, s4, f4)) (h5 : qag W H.toNat [] s4 f4 = (e, s5, f5)) (h6 : qfv s5 f5 = (k, s6, f6))
  (h7 : qb6 40 s6 = (t, s7)) (h8 : qb6 400 s7 = (r, s8)) (h9 : qi4 s8 f6 = (p, s9, f9)) :
  qkq T W H s = if f9 = true ∧ s9 = some [] then some { T with cursor := a, saved := b, away := c, grid := ⟨W, H, d⟩, other := ⟨W, H, e⟩, back := k, title := t, reply := r, parser := p } else none := by
 unfold qkq
 rw [h1]
 dsimp only
 rw [h2]
 dsimp only
 rw [h3]
 dsimp only
 rw [h4]
 dsimp only
 rw [h5]
 dsimp only
 rw [h6]
 dsimp only
 rw [h7]
 dsimp only
 rw [h8]
 dsimp only
 rw [h9]
def qkv (x : RowO) : Row := ⟨x.b.getD 0, x.n, x.cap, x.l⟩
section
variable {w : World} {m n cap : Nat} {o : Option Nat} {rows : List RowO}
theorem RowsO.some (h : RowsO w m rows) {x : RowO} (hx : x ∈ rows) (hl : 0 < x.l.length) : ∃ b, x.b = Option.some b := by
 obtain ⟨h1, h2⟩ := h.line x hx
 exact qdS h1 (by omega)
theorem RowsO.val (h : RowsO w m rows) (hl : ∀ x ∈ rows, 0 < x.l.length) : rows.map RowO.val = (rows.map qkv).map Row.val := by
 rw [List.map_map]
 refine List.map_congr_left fun x hx => ?_
 obtain ⟨b, hb⟩ := h.some hx (hl x hx)
 show Value.slice (x.b.map at0) x.n x.cap = Value.slice (Option.some ⟨x.b.getD 0, 0, none⟩) x.n x.cap
 rw [hb]; rfl
theorem RowsO.each (h : RowsO w m rows) (hl : ∀ x ∈ rows, 0 < x.l.length) : ∀ y ∈ rows.map qkv, (LineAt w y.b y.l y.cap ∧ y.l.length = y.n) ∧ m ≤ y.b ∧ ∃ x ∈ rows, x.b = Option.some y.b := fun y hy => by
 obtain ⟨x, hx, rfl⟩ := List.mem_map.1 hy
 obtain ⟨b, hb⟩ := h.some hx (hl x hx)
 obtain ⟨h1, h2⟩ := h.line x hx
 have e : (qkv x).b = b := by show x.b.getD 0 = b; rw [hb]; rfl
 refine ⟨⟨?_, h2⟩, ?_, x, hx, by rw [e, hb]⟩
 ·unfold LineAt
  rw [e]
  show Own w qcH 6 (Option.some b) x.l.length x.cap (qa6 x.l)
  rw [h2, ← hb]
  exact h1
 ·rw [e]; exact h.lo x hx b hb
theorem RowsO.nodup (h : RowsO w m rows) (hl : ∀ x ∈ rows, 0 < x.l.length) : ((rows.map qkv).map Row.b).Nodup := by
 rw [List.map_map]
 refine List.pairwise_map.2 (h.nd.imp_of_mem fun {x y} hx hy hxy => ?_)
 obtain ⟨b, hb⟩ := h.some hx (hl x hx)
 obtain ⟨c, hc⟩ := h.some hy (hl y hy)
 show ¬ x.b.getD 0 = y.b.getD 0
 rw [hb, hc]
 intro e
 refine hxy b hb ?_
 rw [hc]
 exact congrArg Option.some e.symm
theorem OutO.grid (h : OutO w m o n cap rows) {g : Nat} {W H : Int} (hg : Blk w g [.int .i64 W, .int .i64 H, .slice (o.map at0) n cap] qfp) (hgm : g < m) (hW : 1 ≤ W ∧ W ≤ 60) (hH : 1 ≤ H ∧ H ≤ 60) (hn : rows.length = H.toNat) (hl : ∀ x ∈ rows, (x.l.length : Int) = W)
  {F : Nat → Prop} (hF : F g ∧ (∀ b, o = some b → F b) ∧ ∀ x ∈ rows, ∀ b, x.b = some b → F b) (hlt : ∀ b, F b → b < w.heap.size) (hhi : ∀ b, F b → gTop ≤ b) : GridAt w g ⟨W, H, rows.map RowO.l⟩ F := by
 have hl0 : ∀ x ∈ rows, 0 < x.l.length := fun x hx => by have := hl x hx; omega
 have hlen := h.len
 obtain ⟨r, rfl⟩ := qdS h.own (by omega)
 have hrm := h.lo r rfl
 have hR := h.rs.each hl0
 refine ⟨r, cap, rows.map qkv, ?_⟩
 exact
 {head := by rw [List.length_map, hlen]; exact hg
  body := by rw [List.length_map, hlen, ← h.rs.val hl0]; exact h.own
  line := fun y hy => (hR y hy).1
  lines := by rw [List.map_map]; rfl
  ok := ⟨hW, hH, by rw [List.length_map]; exact hn, fun l hl' => by
   obtain ⟨x, hx, rfl⟩ := List.mem_map.1 hl'
   have := hl x hx
   show x.l.length = W.toNat
   omega⟩
  gr := by omega
  gb := fun y hy => by
   obtain ⟨_, h2, x, hx, hb⟩ := hR y hy
   exact ⟨by omega, fun e => h.off h.own x hx _ hb (by rw [e])⟩
  nodup := h.rs.nodup hl0
  inF := ⟨hF.1, hF.2.1 r rfl, fun y hy => by obtain ⟨_, _, x, hx, hb⟩ := hR y hy; exact hF.2.2 x hx _ hb⟩
  lt := hlt
  hi := hhi }
theorem OutO.linesAt (h : OutO w m o n cap rows) (hl : ∀ x ∈ rows, 0 < x.l.length) {K : Nat → Prop} (hK : (∀ b, o = some b → K b) ∧ ∀ x ∈ rows, ∀ b, x.b = some b → K b) (hlt : ∀ b, K b → b < w.heap.size) (hhi : ∀ b, K b → gTop ≤ b) : LinesAt w (o.map at0) n (rows.map qkv) K := by
 have hR := h.rs.each hl
 exact
 {rd := by rw [← h.rs.val hl]; exact h.own.rd
  len := by rw [List.length_map]; exact h.len
  line := fun y hy => (hR y hy).1
  inK := fun y hy => by obtain ⟨_, _, x, hx, hb⟩ := hR y hy; exact hK.2 x hx _ hb
  aK := fun ad e => by
   cases o with
   | none => cases e
   | some b => cases e; exact hK.1 b rfl
  lt := hlt
  hi := hhi }
end
structure Under (o : Option Nat) (rows : List RowO) (m : Nat) : Prop where
 o : ∀ b, o = some b → b < m
 r : ∀ x ∈ rows, ∀ b, x.b = some b → b < m
theorem OutO.under {w : World} {m n cap : Nat} {o : Option Nat} {rows : List RowO} (h : OutO w m o n cap rows) : Under o rows w.heap.size :=
 ⟨fun b e => by have := h.own; rw [e] at this; exact this.lt, fun x hx b e => h.rs.lt x hx b e⟩
theorem term_of {w : World} {t g q m0 m1 m2 m3 m4 n1 c1 n2 c2 n3 c3 n4 c4 : Nat} {o1 o2 o3 o4 : Option Nat} {r1 r2 r3 : List RowO} {T : TS} (hd : DecOk T)
  (hb : Blk w t (T.vals g q (.slice (o3.map at0) n3 c3) (.slice (o4.map at0) n4 c4)) qae)
  (hg : Blk w g [.int .i64 T.grid.w, .int .i64 T.grid.h, .slice (o1.map at0) n1 c1] qfp) (hq : Blk w q [.int .i64 T.grid.w, .int .i64 T.grid.h, .slice (o2.map at0) n2 c2] qfp)
  (h1 : OutO w m1 o1 n1 c1 r1) (h2 : OutO w m2 o2 n2 c2 r2) (h3 : OutO w m3 o3 n3 c3 r3) (h4 : Own w tI 1 o4 n4 c4 (T.parser.params.map (Value.int .i64))) (l4 : ∀ b, o4 = some b → m4 ≤ b)
  (e1 : T.grid.lines = r1.map RowO.l) (e2 : T.other.lines = r2.map RowO.l) (e3 : T.back = r3.map RowO.l)
  (k1 : Under o1 r1 m2) (k2 : Under o2 r2 m3) (k3 : Under o3 r3 m4) (h7 : gTop ≤ m0) (ht : m0 ≤ t ∧ t < m1) (hgm : m0 ≤ g ∧ g < m1) (hqm : m0 ≤ q ∧ q < m1) (htg : ¬ t = g) (htq : ¬ t = q) (hgq : ¬ g = q) (hm : m1 ≤ m2 ∧ m2 ≤ m3 ∧ m3 ≤ m4 ∧ m4 ≤ w.heap.size) :
  TermAt w t T (fun b => m0 ≤ b ∧ b < w.heap.size) := by
 obtain ⟨⟨G1w, G1h, G1l⟩, ⟨G2w, G2h, G2l⟩, cu, sa, aw, top, bot, tabs, wr, og, ins, hid, d0, d1, sh, al, ti, bk, pp, re⟩ := T
 have u3 := h3.under
 have hw := hd.w
 have hh := hd.h
 obtain ⟨hw2, hh2⟩ := hd.o
 have g1 := hd.g
 have g2 := hd.g2
 have k0 := hd.k
 dsimp only at *
 subst e1 e2 e3 hw2 hh2
 have a1 : ∀ x ∈ r1, (x.l.length : Int) = G2w := fun x hx => (g1.2 _ (List.mem_map_of_mem hx)).1
 have a2 : ∀ x ∈ r2, (x.l.length : Int) = G2w := fun x hx => (g2.2 _ (List.mem_map_of_mem hx)).1
 have a3 : ∀ x ∈ r3, 0 < x.l.length := fun x hx => (k0.2 _ (List.mem_map_of_mem hx)).1
 have gg1 := h1.grid hg (by omega) hw hh (by have := g1.1; rwa [List.length_map] at this) a1 (F := fun b => b = g ∨ (m1 ≤ b ∧ b < m2)) ⟨.inl rfl, fun b e => .inr ⟨h1.lo b e, k1.o b e⟩, fun x hx b e => .inr ⟨h1.rs.lo x hx b e, k1.r x hx b e⟩⟩ (fun b hb => by omega) (fun b hb => by omega)
 have gg2 := h2.grid hq (by omega) hw hh (by have := g2.1; rwa [List.length_map] at this) a2 (F := fun b => b = q ∨ (m2 ≤ b ∧ b < m3)) ⟨.inl rfl, fun b e => .inr ⟨h2.lo b e, k2.o b e⟩, fun x hx b e => .inr ⟨h2.rs.lo x hx b e, k2.r x hx b e⟩⟩ (fun b hb => by omega) (fun b hb => by omega)
 have gg3 := h3.linesAt a3 (K := fun b => m3 ≤ b ∧ b < m4) ⟨fun b e => ⟨h3.lo b e, k3.o b e⟩, fun x hx b e => ⟨h3.rs.lo x hx b e, k3.r x hx b e⟩⟩ (fun b hb => by omega) (fun b hb => by omega)
 refine ⟨g, q, o3.map at0, n3, c3, o4.map at0, n4, c4, fun b => b = g ∨ (m1 ≤ b ∧ b < m2), fun b => b = q ∨ (m2 ≤ b ∧ b < m3), fun b => m3 ≤ b ∧ b < m4, fun b => m4 ≤ b ∧ b < w.heap.size, ?_⟩
 exact
 {blk := hb
  g1 := gg1
  g2 := gg2
  bk := ⟨_, gg3, by rw [List.map_map]; rfl⟩
  bcap := ⟨h3.own.2.1, fun e => by
   cases o3 with
   | none => exact (h3.own.2.2.2.1 rfl).2
   | some b => cases e⟩
  ps := ⟨h4.rd, by have := h4.1; rwa [List.length_map, Nat.mul_one] at this, (fun e => by
   cases o4 with
   | none => exact (h4.2.2.2.1 rfl).2
   | some b => cases e), fun ad e => by
   cases o4 with
   | none => cases e
   | some b => cases e; exact ⟨l4 b rfl, h4.lt⟩⟩
  pz := ⟨o4, rfl⟩
  bz := by
   cases o3 with
   | none => exact .inl rfl
   | some b => exact .inr ⟨b, 0, rfl⟩
  t1 := fun h => by omega
  t2 := fun h => by omega
  tB := fun h => by omega
  tP := fun h => by omega
  a12 := fun b h1 h2 => by omega
  a1B := fun b h1 h2 => by omega
  a2B := fun b h1 h2 => by omega
  a1P := fun b h1 h2 => by omega
  a2P := fun b h1 h2 => by omega
  inF := ⟨by omega, fun b h => by omega, fun b h => by omega, fun b h => by omega, fun b h => by omega⟩
  lt := fun b h => h.2
  hi := fun b h => by omega }
theorem qmr {s s1 : RS} (h : qgZ s = (none, s1)) : decT s = none := by unfold decT; rw [h]
theorem qdT {s s1 : RS} {T : TS} (h : qgZ s = (some T, s1)) : decT s = qkq T T.grid.w T.grid.h s1 := by unfold decT; rw [h]
theorem qms {s s1 : RS} {T : TS} (h : qgZ s = (some T, s1)) : T.other = T.grid := by
 unfold qgZ at h; dsimp only at h; split at h
 ·cases h
 simp only [Prod.mk.injEq, Option.some.injEq] at h; rw [← h.1]; rfl
set_option maxHeartbeats 4000000 in
theorem qkw (D : Nat) (a : Option Addr) (n cap : Nat) (us : List Int) (ot : Option TS) (w : World) (hT : LT w) (h7 : gTop ≤ w.heap.size) (hr : Rd w a (u8s us)) (hl : us.length = n) (hle : n ≤ cap) (hz : (n = 0 ∧ cap = 0) ∨ ∃ o, a = some ⟨D, o, none⟩) (hb : qd7 us) (hn : n ≤ 1000000) (hD : D < w.heap.size) (hX : decT (some us) = ot) : Calls Tryz.prog 14 [.slice a n cap].toArray w fun e w' =>
 ∃ v x, e = .returned (.tuple #[v, iX x]) ∧ Ch (fun _ => False) w w' ∧ ((ot = none ∧ v = .pointer none ∧ x = 1) ∨ ∃ t T, ot = some T ∧ v = pX t ∧ x = 0 ∧ TermAt w' t T (fun b => w.heap.size ≤ b ∧ b < w'.heap.size)) := by
 refine yA Tryz.func14 rfl <| yx 2 <| ysr <| yq 1 <| yo (yC (of_any D a n cap us _ hr hl hle hz hb hn hD) ?_); rintro _ gp ⟨rv, rfl, gq, aB, bI⟩; refine ⟨_, rfl, ?_⟩; have aV := zu (zm w) bI iZ; have bJ := aB.rs; refine yq 3 <| yo (yN [pX rv, .bool true] 77 fun gr sr bK gs aW aX => ?_); have gu := zn bK aV; have B : ¬ sr = rv := by have := aB.lt; omega
 have L : ¬ sr = D := by omega
 have af := zu aV aX iZ; have aY := aB.ch aX id id; have gv := aW.lt; have gw := aY.lt; refine yz 5 <| ysr <| yq 1 ?_; obtain ⟨gx, s1, hH⟩ : ∃ o s', qgZ (some us) = (o, s') := ⟨_, _, rfl⟩
 refine yo (yC (qmq ⟨aW, aY, B, L⟩ (qy (Up.ch af) hT (fun _ h => h.elim)) (by omega) (by omega) hH) ?_); rintro _ d ⟨v0, rfl, aZ, bM, bN⟩; refine ⟨_, rfl, ?_⟩; have b3 := zu af bM (fun i hi h => h.elim (fun (h : i = sr) => by omega) (fun (h : i = rv) => by omega)); rcases bN with ⟨rfl, rfl⟩ | ⟨t, T, rfl, rfl, bO⟩
 ·refine yz 3 <| ys <| yx 2 <| yct <| yx 2 <| qe (rS (yR2 [.pointer none, iX 1] .z ?_)); rw [qmr hH] at hX; exact ⟨_, _, rfl, Up.ch b3, .inl ⟨hX.symm, rfl, rfl⟩⟩
 obtain ⟨g, q, ba, bn, bc, pa, pn, pc, F1, F2, FB, FP, hI⟩ := bO; obtain ⟨r1, gC, gD, ag⟩ := hI.g1; obtain ⟨r2, gF, gG, au⟩ := hI.g2; have gH := hI.inF.1; have gI := hI.inF.2.1 g ag.inF.1; have gJ := hI.inF.2.2.1 q au.inF.1; have C : Df t g := fun e => hI.t1 (e ▸ ag.inF.1); have E : Df t q := fun e => hI.t2 (e ▸ au.inF.1); have aC : Df g q := fun e => hI.a12 g ag.inF.1 (e ▸ au.inF.1); obtain ⟨gK, gL, _⟩ := ag.ok; have j : Df t sr := (show ¬ t = sr by omega)
 have f : Df t rv := (show ¬ t = rv by omega)
 have M : Df g sr := (show ¬ g = sr by omega)
 have m : Df g rv := (show ¬ g = rv by omega)
 have N : Df q sr := (show ¬ q = sr by omega)
 have r : Df q rv := (show ¬ q = rv by omega)
 have av : Df sr rv := B; have gM : w.heap.size ≤ t := by have := zs af; omega
 have gN : w.heap.size ≤ g := by have := zs af; omega
 have gO : w.heap.size ≤ q := by have := zs af; omega
 refine yz 3 <| ys <| yx 2 <| ycf <| yk <| ys <| ys <| yD [9] fun bP gP W => ?_; have b4 := zu b3 W iZ; have bQ : Ch (fun _ => True) d bP := zt (Ch.refl (fun _ => True) d) W (fun _ _ _ => trivial); have aD := aZ.blk.ch W id; have aE := aZ.rd.ch W id id; have aF := hI.blk.ch W id; have bR := ag.head.ch W id; have bS := au.head.ch W id; refine yd [0, 1, 2, 3, 4, 5, 6, 7, 8, 11] [] .z <| yK 9 (yB [.pointer (some ⟨t, 2, none⟩), .pointer (some ⟨t, 10, none⟩), .pointer (some ⟨t, 18, none⟩)] 79 3 fun bT a7 bU gQ b5 X => ?_); have gR := zn bU b4; have bV := zu b4 X iZ; have bW : Ch (fun _ => True) d bT := zt bQ X (fun _ _ _ => trivial); have bX := aD.ch X id; have bY := aE.ch X id id; have bZ := aF.ch X id; have c0 := bR.ch X id; have c1 := bS.ch X id; refine q9 <| yd [10] [] .z <| yDe (nS ?_); refine q8 <| yU 4 (yU1 ?_); refine yx 1 <| ys <| yct <| yk <| ys <| q8 <| ysr <| yp 3 [] (.i 0 (3) (.l (b5.c 0) .z)) <| ye <| yD [16, 18] fun c2 gS O => ?_; have c3 := zu bV O iZ; have c4 : Ch (fun _ => True) d c2 := zt bW O (fun _ _ _ => trivial); have c5 := bX.ch O id; have c6 := bY.ch O id id; have aG := bZ.ch O id; have aH := c0.ch O id; have c7 := c1.ch O id; have c8 := b5.ch O id; refine yd (uL 0 16) [] (.l (aG.c 0) (.l (aH.c 0) (.l (aG.c 0) (.l (aH.c 1) .z)))) ?_; obtain ⟨Y, c9, ca, ah⟩ : ∃ c ok s', qi3 T.grid.w T.grid.h s1 = (c, ok, s') := ⟨_, _, _, rfl⟩
 refine yK 16 (yQ (qdp ⟨c5, c6, B, L⟩ ah (by omega) (by omega)) ?_); rintro cb ⟨b6, a8⟩; have cc := zu c3 a8 (fun i hi h => h.elim (fun (h : i = sr) => by omega) (fun (h : i = rv) => by omega)); have cd : Ch (fun _ => True) d cb := zt c4 a8 (fun _ _ _ => trivial); have ce := aG.ch a8 (fun h => h.elim j f); have cf := aH.ch a8 (fun h => h.elim M m); have cg := c7.ch a8 (fun h => h.elim N r); have ci := c8.ch a8 (fun h => h.elim (fun (h : a7 = sr) => by have := aD.lt; omega) (fun (h : a7 = rv) => by have := aE.lt; omega)); refine q9 <| yd [17] [] .z <| yK 18 (yS ce fun cj ck Z => ?_); have cl := zu cc Z (fun i hi (h : i = t) => by omega); have cm : Ch (fun _ => True) d cj := zt cd Z (fun _ _ _ => trivial); have cn := cf.ch Z (fun h => C h.symm); have co := cg.ch Z (fun h => E h.symm); have b7 := ci.ch Z (fun (h : a7 = t) => by have := aF.lt; omega); have cp := b6.blk.ch Z (fun h => j h.symm); have cq := b6.rd.ch Z (fun h => f h.symm) (fun (h : D = t) => by omega); have cr : Blk _ t (TS.vals ({ T with cursor := Y } : TS) g q (.slice ba bn bc) (.slice pa pn pc)) qae := Blk.to ck (by kernel_rfl); refine q9 <| yDe (nB (nS ?_)); refine q7 <| yp 2 [] (.q6 1 .z) <| yE (nU (yU1 ?_)); refine yx 1 <| ys <| yct <| yk <| ys <| q8 <| ysr <| yp 3 [] (.i 1 (3) (.l (b7.c 1) .z)) <| ye <| yD [16, 18] fun cs gT P => ?_; have ct := zu cl P iZ; have cu : Ch (fun _ => True) d cs := zt cm P (fun _ _ _ => trivial); have aI := cn.ch P id; have cv := co.ch P id; have cw := b7.ch P id
 have cx := cp.ch P id; have cy := cq.ch P id id; have aJ := cr.ch P id; refine yd (uL 0 16) [] (.l (aJ.c 0) (.l (aI.c 0) (.l (aJ.c 0) (.l (aI.c 1) .z)))) ?_; obtain ⟨a9, cz, cA, ai⟩ : ∃ c ok s', qi3 T.grid.w T.grid.h ca = (c, ok, s') := ⟨_, _, _, rfl⟩
 refine yK 16 (yQ (qdp ⟨cx, cy, B, L⟩ ai (by omega) (by omega)) ?_); rintro cB ⟨b8, aa⟩; have cC := zu ct aa (fun i hi h => h.elim (fun (h : i = sr) => by omega) (fun (h : i = rv) => by omega)); have cD : Ch (fun _ => True) d cB := zt cu aa (fun _ _ _ => trivial); have cE := aI.ch aa (fun h => h.elim M m); have cF := cv.ch aa (fun h => h.elim N r); have cG := cw.ch aa (fun h => h.elim (fun (h : a7 = sr) => by have := aD.lt; omega) (fun (h : a7 = rv) => by have := aE.lt; omega)); have cH := aJ.ch aa (fun h => h.elim j f); refine q9 <| yd [17] [] .z <| yK 18 (yS cH fun cI cJ a0 => ?_); have cK := zu cC a0 (fun i hi (h : i = t) => by omega); have cL : Ch (fun _ => True) d cI := zt cD a0 (fun _ _ _ => trivial); have cM := cE.ch a0 (fun h => C h.symm); have cN := cF.ch a0 (fun h => E h.symm); have cO := cG.ch a0 (fun (h : a7 = t) => by have := aF.lt; omega); have cP := b8.blk.ch a0 (fun h => j h.symm); have cQ := b8.rd.ch a0 (fun h => f h.symm) (fun (h : D = t) => by omega); have cR : Blk _ t (TS.vals ({ T with cursor := Y, saved := a9 } : TS) g q (.slice ba bn bc) (.slice pa pn pc)) qae := Blk.to cJ (by kernel_rfl); refine q9 <| yDe (nB (nS ?_)); refine q7 <| yp 2 [] (.q6 2 .z) <| yE (nU (yU1 ?_)); refine yx 1 <| ys <| yct <| yk <| ys <| q8 <| ysr <| yp 3 [] (.i 2 (3) (.l (cO.c 2) .z)) <| ye <| yD [16, 18] fun cS gU a1 => ?_; have cT := zu cK a1 iZ; have cU : Ch (fun _ => True) d cS := zt cL a1 (fun _ _ _ => trivial); have aK := cM.ch a1 id; have cV := cN.ch a1 id
 have cW := cP.ch a1 id; have cX := cQ.ch a1 id id; have aL := cR.ch a1 id; refine yd (uL 0 16) [] (.l (aL.c 0) (.l (aK.c 0) (.l (aL.c 0) (.l (aK.c 1) .z)))) ?_; obtain ⟨aj, cY, cZ, ak⟩ : ∃ c ok s', qi3 T.grid.w T.grid.h cA = (c, ok, s') := ⟨_, _, _, rfl⟩
 refine yK 16 (yQ (qdp ⟨cW, cX, B, L⟩ ak (by omega) (by omega)) ?_); rintro d0 ⟨b9, al⟩; have d1 := zu cT al (fun i hi h => h.elim (fun (h : i = sr) => by omega) (fun (h : i = rv) => by omega)); have d2 : Ch (fun _ => True) d d0 := zt cU al (fun _ _ _ => trivial); have d3 := aK.ch al (fun h => h.elim M m); have d4 := cV.ch al (fun h => h.elim N r); have d5 := aL.ch al (fun h => h.elim j f); refine q9 <| yd [17] [] .z <| yK 18 (yS d5 fun d6 d7 ab => ?_); have d8 := zu d1 ab (fun i hi (h : i = t) => by omega); have d9 : Ch (fun _ => True) d d6 := zt d2 ab (fun _ _ _ => trivial); have da := d3.ch ab (fun h => C h.symm); have db := d4.ch ab (fun h => E h.symm); have dc := b9.blk.ch ab (fun h => j h.symm); have dd := b9.rd.ch ab (fun h => f h.symm) (fun (h : D = t) => by omega); have de : Blk _ t (TS.vals ({ T with cursor := Y, saved := a9, away := aj } : TS) g q (.slice ba bn bc) (.slice pa pn pc)) qae := Blk.to d7 (by kernel_rfl); refine q9 <| yDe (nB (nS ?_)); refine q7 <| yp 2 [] (.q6 3 .z) <| yE (nU (yU1 ?_)); refine yx 1 <| ys <| ycf <| qo (eS (qg (qd (nS ?_)))); refine ys <| ys <| yD [8] fun df gV a2 => ?_; have bb := zu d8 a2 iZ; have dg : Ch (fun _ => True) d df := zt d9 a2 (fun _ _ _ => trivial); have bd := da.ch a2 id; have dh := db.ch a2 id; have bf := dc.ch a2 id; have bg := dd.ch a2 id id; have aM := de.ch a2 id; refine yd [0, 1, 2, 3, 4, 5, 6, 7, 10] [] (.l (aM.c 0) (.l (aM.c 1) .z)) <| yK 8 (yB [pX g, pX q] 42 2 fun di aw dj gW bh a3 => ?_)
 have gX := zn dj bb; have dk := zu bb a3 iZ; have dl : Ch (fun _ => True) d di := zt dg a3 (fun _ _ _ => trivial); have dm := bd.ch a3 id; have dn := dh.ch a3 id; have dp := bf.ch a3 id; have dq := bg.ch a3 id id; have dr := aM.ch a3 id; refine q9 <| yd [9] [] .z <| yDe (nS ?_); refine q8 <| yU 3 (yU1 ?_); refine yx 1 <| ys <| yct <| yk <| ys <| q8 <| ysr <| yp 3 [] (.i 0 (2) (.l (bh.c 0) .z)) <| ye <| yD [16, 19] fun a4 gY Q => ?_; have bi := zu dk Q iZ; have ds : Ch (fun _ => True) d a4 := zt dl Q (fun _ _ _ => trivial); have aN := dm.ch Q id; have dt := dn.ch Q id; have du := dp.ch Q id; have dv := dq.ch Q id id; have aO := dr.ch Q id; have dw := bh.ch Q id; refine yd (uL 0 16) [] (.l (aO.c 0) (.l (aN.c 0) (.l (aO.c 0) (.l (aN.c 1) .z)))) ?_; have gZ : d.heap.size ≤ a4.heap.size := zs ds; obtain ⟨h0, dx, f194, am⟩ : ∃ l s' f', qag T.grid.w (T.grid.h : Int).toNat [] cZ (((true && c9) && cz) && cY) = (l, s', f') := ⟨_, _, _, rfl⟩
 refine yK 16 (yC (qei ⟨du, dv, B, L⟩ (qy (Up.ch bi) hT (fun _ h => h.elim)).tb (by omega) (by omega) (by omega) (by omega) am) ?_); rintro _ dy ⟨bj, bk, bl, h1, rfl, dz, dA, bm, ac⟩; refine ⟨_, rfl, ?_⟩; have dB := zu bi ac (fun i hi h => h.elim (fun (h : i = sr) => by omega) (fun (h : i = rv) => by omega)); have dC : Ch (fun _ => True) a4 dy := zt (Ch.refl (fun _ => True) a4) ac (fun _ _ _ => trivial); have dD := aN.ch ac (fun h => h.elim M m); have dE := dt.ch ac (fun h => h.elim N r); have dF := aO.ch ac (fun h => h.elim j f); have dG := dw.ch ac (fun h => h.elim (fun (h : aw = sr) => by have := bf.lt; omega) (fun (h : aw = rv) => by have := bg.lt; omega)); refine q9 <| yd [17, 18] [] .z <| dkeep [4, 5, 60, 61, 62, 82, 84] (f' := [(4, pX sr), (5, pX t), (60, .slice (some ⟨aw, 0, none⟩) 2 2), (61, iX 2), (62, iX 0), (82, .slice (bj.map at0) bk bl), (84, .pointer (some ⟨g, 2, none⟩))]) <| yK 19 (yT [iX T.grid.w, iX T.grid.h, .slice (bj.map at0) bk bl] dD fun dH dI R => ?_); have dJ := zu dB R (fun i hi (h : i = g) => by omega); have dK : Ch (fun _ => True) a4 dH := zt dC R (fun _ _ _ => trivial); have dL := dE.ch R (fun h => aC h.symm); have dM := dF.ch R C; have dN := dG.ch R (fun (h : aw = g) => by have := bd.lt; omega); have dO := bm.blk.ch R (fun h => M h.symm); have dP := bm.rd.ch R (fun h => m h.symm) (fun (h : D = g) => by omega); have dQ := dz.ch R (fun b hb hl (h : b = g) => by omega); refine q9 <| yDe (nB (nS ?_)); refine q7 <| yp 2 [] (.q6 1 .z) <| yE (nU (yU1 ?_))
 refine yx 1 <| ys <| yct <| yk <| ys <| q8 <| ysr <| yp 3 [] (.i 1 (2) (.l (dN.c 1) .z)) <| ye <| yD [16, 19] fun ad h2 S => ?_; have bo := zu dJ S iZ; have dR : Ch (fun _ => True) a4 ad := zt dK S (fun _ _ _ => trivial); have dS := dL.ch S id; have aP := dM.ch S id; have dT := dO.ch S id; have dU := dP.ch S id id; have bp := dQ.ch S (fun _ _ _ h => h); have aQ := dI.ch S id; refine yd (uL 0 16) [] (.l (aP.c 0) (.l (aQ.c 0) (.l (aP.c 0) (.l (aQ.c 1) .z)))) ?_; have h3 : a4.heap.size ≤ ad.heap.size := zs dR; obtain ⟨h4, dV, f239, an⟩ : ∃ l s' f', qag T.grid.w (T.grid.h : Int).toNat [] dx f194 = (l, s', f') := ⟨_, _, _, rfl⟩
 have dW := bp.under; refine yK 16 (yC (qei ⟨dT, dU, B, L⟩ (qy (Up.ch bo) hT (fun _ h => h.elim)).tb (by omega) (by omega) (by omega) (by omega) an) ?_); rintro _ dX ⟨dY, dZ, e0, h5, rfl, e1, e2, bq, ae⟩; refine ⟨_, rfl, ?_⟩; have e3 := zu bo ae (fun i hi h => h.elim (fun (h : i = sr) => by omega) (fun (h : i = rv) => by omega)); have e4 : Ch (fun _ => True) ad dX := zt (Ch.refl (fun _ => True) ad) ae (fun _ _ _ => trivial); have e5 := dS.ch ae (fun h => h.elim N r); have e6 := aP.ch ae (fun h => h.elim j f); have e7 := bp.ch ae (fun b hb hl h => h.elim (fun (h : b = sr) => by omega) (fun (h : b = rv) => by omega)); have e8 := aQ.ch ae (fun h => h.elim M m); refine q9 <| yd [17, 18] [] .z <| yK 19 (yT [iX T.other.w, iX T.other.h, .slice (dY.map at0) dZ e0] e5 fun k e9 U => ?_); have br := zu e3 U (fun i hi (h : i = q) => by omega); have ea : Ch (fun _ => True) ad k := zt e4 U (fun _ _ _ => trivial); have eb := e6.ch U E; have ec := e7.ch U (fun b hb hl (h : b = q) => by omega); have ed := e8.ch U aC; have ee := bq.blk.ch U (fun h => N h.symm); have ef := bq.rd.ch U (fun h => r h.symm) (fun (h : D = q) => by omega); have bs := e1.ch U (fun b hb hl (h : b = q) => by omega); refine q9 <| yDe (nB (nS ?_)); refine q7 <| yp 2 [] (.q6 2 .z) <| yE (nU (yU1 ?_)); refine yx 1 <| ys <| ycf <| qo (eS (qg (qd (nS ?_)))); refine ysr <| yq 2 ?_; have h6 : ad.heap.size ≤ k.heap.size := zs ea; obtain ⟨ax, eg, f273, ao⟩ : ∃ l s' f', qfv dV f239 = (l, s', f') := ⟨_, _, _, rfl⟩
 have eh := bs.under; refine yo (yC (qmn ⟨ee, ef, B, L⟩ (qy (Up.ch br) hT (fun _ h => h.elim)).tb (by omega) (by omega) ao) ?_); rintro _ ei ⟨ay, az, aA, h8, rfl, ej, ek, bt, a5⟩; refine ⟨_, rfl, ?_⟩; have el := zu br a5 (fun i hi h => h.elim (fun (h : i = sr) => by omega) (fun (h : i = rv) => by omega)); have em : Ch (fun _ => True) k ei := zt (Ch.refl (fun _ => True) k) a5 (fun _ _ _ => trivial); have en := eb.ch a5 (fun h => h.elim j f); have eo := ec.ch a5 (fun b hb hl h => h.elim (fun (h : b = sr) => by omega) (fun (h : b = rv) => by omega)); have ep := ed.ch a5 (fun h => h.elim M m); have er := bs.ch a5 (fun b hb hl h => h.elim (fun (h : b = sr) => by omega) (fun (h : b = rv) => by omega)); have es := e9.ch a5 (fun h => h.elim N r); refine yq 5 <| yo (yS en fun et eu F => ?_); have ev := zu el F (fun i hi (h : i = t) => by omega); have ew : Ch (fun _ => True) k et := zt em F (fun _ _ _ => trivial); have ex := eo.ch F (fun b hb hl (h : b = t) => by omega); have ey := ep.ch F (fun h => C h.symm); have ez := er.ch F (fun b hb hl (h : b = t) => by omega); have eA := es.ch F (fun h => E h.symm); have eB := bt.blk.ch F (fun h => j h.symm); have eC := bt.rd.ch F (fun h => f h.symm) (fun (h : D = t) => by omega); have eD := ej.ch F (fun b hb hl (h : b = t) => by omega); have eE : Blk _ t (TS.vals ({ T with back := ax, cursor := Y, saved := a9, away := aj } : TS) g q (.slice (ay.map at0) az aA) (.slice pa pn pc)) qae := Blk.to eu (by kernel_rfl); refine ye <| ys <| qG (· = rv) [11, 14, 17] (by kernel_rfl) (fun eF h9 s => ?_)
 have eG := zu ev s iZ; have eH : Ch (fun _ => True) k eF := zt ew s (fun _ _ _ => trivial); have eI := ex.ch s (fun _ _ _ h => h); have eJ := ey.ch s id; have eK := ez.ch s (fun _ _ _ h => h); have eL := eA.ch s id; have aR := eB.ch s id; have eM := eC.ch s id id; have eN := eD.ch s (fun _ _ _ h => h); have eO := eE.ch s id; refine ydC [0, 1, 2, 3, 4, 5, 7, 8, 9, 10] [] (fun u hu => (.l (qf hu (aR.c 0) av) (.l (qf hu (aR.c 0) av) .z))) ?_; obtain ⟨aS, eP, ap⟩ : ∃ x s', qb6 40 eg = (x, s') := ⟨_, _, rfl⟩
 refine yH 6 (yQ (qcT (most := 40) eM ap (by decide)) ?_); rintro eQ ⟨eR, y⟩; have eT := zu eG y (fun i hi (h : i = rv) => by omega); have eU : Ch (fun _ => True) k eQ := zt eH y (fun _ _ _ => trivial); have eV := eI.ch y (fun b hb hl (h : b = rv) => by omega); have eW := eJ.ch y m; have eX := eK.ch y (fun b hb hl (h : b = rv) => by omega); have eY := eL.ch y r; have eZ := aR.ch y av; have fa := eN.ch y (fun b hb hl (h : b = rv) => by omega); have fb := eO.ch y f; refine qj y iZ ?_; obtain ⟨bu, fc, aq⟩ : ∃ x s', qb6 400 eP = (x, s') := ⟨_, _, rfl⟩
 refine yK 11 (yQ (qcT (most := 400) eR aq (by decide)) ?_); rintro fd ⟨fe, G⟩; have ff := zu eT G (fun i hi (h : i = rv) => by omega); have fg : Ch (fun _ => True) k fd := zt eU G (fun _ _ _ => trivial); have fh := eV.ch G (fun b hb hl (h : b = rv) => by omega); have fi := eW.ch G m; have fj := eX.ch G (fun b hb hl (h : b = rv) => by omega); have fk := eY.ch G r; have fl := eZ.ch G av; have fm := fa.ch G (fun b hb hl (h : b = rv) => by omega); have fn := fb.ch G f; refine q9 <| yd [12, 13] [] .z <| yK 14 (yS fn fun fo fp H => ?_); have fq := zu ff H (fun i hi (h : i = t) => by omega); have fr : Ch (fun _ => True) k fo := zt fg H (fun _ _ _ => trivial); have fs := fh.ch H (fun b hb hl (h : b = t) => by omega); have ft := fi.ch H (fun h => C h.symm); have fu := fj.ch H (fun b hb hl (h : b = t) => by omega); have fv := fk.ch H (fun h => E h.symm); have fw := fl.ch H (fun h => j h.symm); have fx := fm.ch H (fun b hb hl (h : b = t) => by omega); have fy := fe.ch H (fun h => f h.symm) (fun (h : D = t) => by omega); have fz : Blk _ t (TS.vals ({ T with back := ax, cursor := Y, saved := a9, away := aj, title := aS } : TS) g q (.slice (ay.map at0) az aA) (.slice pa pn pc)) qae := Blk.to fp (by kernel_rfl); refine q9 <| yd [15, 16] [] .z <| yK 17 (yS fz fun a6 fA I => ?_); have bv := zu fq I (fun i hi (h : i = t) => by omega); have fB : Ch (fun _ => True) k a6 := zt fr I (fun _ _ _ => trivial); have fC := fs.ch I (fun b hb hl (h : b = t) => by omega); have fD := ft.ch I (fun h => C h.symm)
 have fE := fu.ch I (fun b hb hl (h : b = t) => by omega); have fF := fv.ch I (fun h => E h.symm); have fG := fw.ch I (fun h => j h.symm); have bw := fx.ch I (fun b hb hl (h : b = t) => by omega); have fH := fy.ch I (fun h => f h.symm) (fun (h : D = t) => by omega); have fI : Blk _ t (TS.vals ({ T with back := ax, cursor := Y, saved := a9, away := aj, title := aS, reply := bu } : TS) g q (.slice (ay.map at0) az aA) (.slice pa pn pc)) qae := Blk.to fA (by kernel_rfl); refine q9 <| yDe (nS ?_); refine ysr <| yq 2 ?_; have ha : k.heap.size ≤ a6.heap.size := zs fB; obtain ⟨J, fJ, f392, ar⟩ : ∃ p s' f', qi4 fc f273 = (p, s', f') := ⟨_, _, _, rfl⟩
 have fK := bw.under; refine yo (yC (qiN ⟨fG, fH, B, L⟩ (qy (Up.ch bv) hT (fun _ h => h.elim)).ut (by omega) (by omega) ar) ?_); rintro _ fL ⟨fM, fN, fO, rfl, fP, bx, bz, V⟩; refine ⟨_, rfl, ?_⟩; have fQ := zu bv V (fun i hi h => h.elim (fun (h : i = sr) => by omega) (fun (h : i = rv) => by omega)); have fR : Ch (fun _ => True) a6 fL := zt (Ch.refl (fun _ => True) a6) V (fun _ _ _ => trivial); have fS := fC.ch V (fun b hb hl h => h.elim (fun (h : b = sr) => by omega) (fun (h : b = rv) => by omega)); have fT := fD.ch V (fun h => h.elim M m); have fU := fE.ch V (fun b hb hl h => h.elim (fun (h : b = sr) => by omega) (fun (h : b = rv) => by omega)); have fV := fF.ch V (fun h => h.elim N r); have fW := bw.ch V (fun b hb hl h => h.elim (fun (h : b = sr) => by omega) (fun (h : b = rv) => by omega)); have fX := fI.ch V (fun h => h.elim j f); refine yq 5 <| yo (yS fX fun fY fZ A => ?_); have bA := zu fQ A (fun i hi (h : i = t) => by omega); have g0 : Ch (fun _ => True) a6 fY := zt fR A (fun _ _ _ => trivial); have g3 := fS.ch A (fun b hb hl (h : b = t) => by omega); have g4 := fT.ch A (fun h => C h.symm); have g5 := fU.ch A (fun b hb hl (h : b = t) => by omega); have g6 := fV.ch A (fun h => E h.symm); have g7 := fW.ch A (fun b hb hl (h : b = t) => by omega); have bB := bz.blk.ch A (fun h => j h.symm); have g8 := bz.rd.ch A (fun h => f h.symm) (fun (h : D = t) => by omega); have g9 := fP.ch A (fun b e (h : b = t) => by have := bx b e; omega); have ga : Blk _ t (TS.vals ({ T with back := ax, cursor := Y, saved := a9, away := aj, title := aS, reply := bu, parser := { T.parser with state := J.state, marks := J.marks, text := J.text, within := J.within, utf := ⟨J.utf.b0, J.utf.b1, J.utf.b2, J.utf.n⟩, params := J.params } } : TS) g q (.slice (ay.map at0) az aA) (.slice (fM.map at0) fN fO)) qae := Blk.to fZ (by kernel_rfl)
 refine ye <| ys <| ysr <| yp 6 [] (.l (bB.c 1) .z) <| yw [117] (rN (rY f392)) (fun aT => ?_) fun aT => ?_
 ·have gb := aT; refine yz 13 <| yct <| yx 2 <| qe (rS (yR2 [.pointer none, iX 1] .z ?_)); rw [qdT hH, qeN ah ai ak am an ao ap aq ar] at hX; rw [if_neg (fun h => absurd (gb.symm.trans h.1) (by decide))] at hX; exact ⟨_, _, rfl, Up.ch bA, .inl ⟨hX.symm, rfl, rfl⟩⟩
 have bC := aT; refine yp 10 [] (.l (bB.c 0) .z) <| yo (yQ (done_any g8) fun bD K => ?_); have bE := zu bA K iZ; have gc : Ch (fun _ => True) a6 bD := zt g0 K (fun _ _ _ => trivial); have gd := g3.ch K (fun _ _ _ h => h); have gf := g4.ch K id; have gg := g5.ch K (fun _ _ _ h => h); have gh := g6.ch K id; have gi := g7.ch K (fun _ _ _ h => h); have gj := g9.ch K iZ; have gk := ga.ch K id; refine yz 13 <| yc (rN (rY (decide (fJ = some [])))) (fun aU => ?_) fun aU => ?_
 ·have gl := aU; refine yx 2 <| qe (rS (yR2 [.pointer none, iX 1] .z ?_)); rw [qdT hH, qeN ah ai ak am an ao ap aq ar] at hX; rw [if_neg (fun h => of_decide_eq_false gl h.2)] at hX; exact ⟨_, _, rfl, Up.ch bE, .inl ⟨hX.symm, rfl, rfl⟩⟩
 have bF := aU; refine yk <| yx 3 <| qe (yR2 [pX t, iX 0] .z ?_); rw [qdT hH, qeN ah ai ak am an ao ap aq ar] at hX; have hc : a6.heap.size ≤ bD.heap.size := zs gc; rw [if_pos ⟨bC, of_decide_eq_true bF⟩] at hX; obtain rfl := hX.symm; have bG := qdT hH; rw [qeN ah ai ak am an ao ap aq ar, if_pos ⟨bC, of_decide_eq_true bF⟩] at bG; obtain ⟨_, _, _, gm⟩ := qm7 bJ bG; have gn := qms hH; have bH := gh; rw [gn] at bH; exact ⟨_, _, rfl, Up.ch bE, .inr ⟨t, _, rfl, rfl, rfl, term_of gm (Blk.to gk (by kernel_rfl)) gf bH gd gg gi gj bx dA.symm e2.symm ek.symm dW eh fK h7 (by omega) (by omega) (by omega) C E aC (by omega)⟩⟩
theorem qaX : qab [] = [] := rfl
theorem qay (x : Int) (l : List Int) : qab (x :: l) = qaA x.toNat ++ qab l := rfl
theorem qmt {w : World} {b o : Nat} {l : List Bool} (h : Rd w (some ⟨b, o, none⟩) (l.map Value.bool)) {k : Nat} (hk : k < l.length) : w.cell? ⟨b, o + ((k : Nat) : Int).toNat * 1, none⟩ = some (.bool (lb l k)) := by
 rw [Int.toNat_natCast, Nat.mul_one]; refine qbG h k _ ?_; rw [List.getElem?_map, List.getElem?_eq_getElem hk]; simp [lb, List.getD, List.getElem?_eq_getElem hk]
theorem qfj (l : List Bool) (h : l.length ≤ 60) : qY l < 2 ^ 60 := Nat.lt_of_lt_of_le (qbN _ _) (Nat.pow_le_pow_right (by decide) h)
structure CurB (c : Cur) : Prop where
  x : 0 ≤ c.x ∧ c.x ≤ 1000
  y : 0 ≤ c.y ∧ c.y ≤ 1000
  s : qA c.sty = true
structure ParB (p : PS) : Prop where
  st : 0 ≤ p.state ∧ p.state ≤ 1000
  wi : 0 ≤ p.within ∧ p.within ≤ 1000
  u : 0 ≤ p.utf.n ∧ p.utf.n ≤ 3
  ub : qd7 p.utf.pend
  m : p.marks.size ≤ 1000
  n : p.params.length ≤ 1000
  b : ∀ x ∈ p.params, 0 ≤ x ∧ x ≤ 9999
  t : p.text.size ≤ 1000
theorem qdU {u : US} (h : 0 ≤ u.n ∧ u.n ≤ 3) : u.pend.length = u.n.toNat := by
 unfold US.pend; rw [List.length_take]; simp only [List.length_cons, List.length_nil]; omega
theorem qh4 {w : World} {b : Nat} {c : Value} {r : List Value} {T : TypeId} {u : US} (h : Blk w b (c :: uX u.b0 :: uX u.b1 :: uX u.b2 :: r) T) : Rd w (some ⟨b, 1, none⟩) (u.pend.map (Value.int .u8)) := by
 refine Rd.blk h fun j hj => ?_; unfold US.pend at hj ⊢; rw [List.length_map, List.length_take] at hj; rw [List.map_take, List.getElem?_take, if_pos (by omega), Nat.add_comm]; simp only [List.length_cons, List.length_nil] at hj; obtain rfl | rfl | rfl : j = 0 ∨ j = 1 ∨ j = 2 := by omega
 ·rfl
 ·rfl
 rfl
set_option maxHeartbeats 4000000 in
theorem qfk (fb fo kn : Nat) (l : List Bool) (w : World) (hr : Rd w (some ⟨fb, fo, none⟩) (l.map Value.bool)) (hl : l.length = kn) (hn : kn ≤ 60) : Calls Tryz.prog 21 [.slice (some ⟨fb, fo, none⟩) kn kn].toArray w fun e w' => e = .returned (.int .u64 ((qY l : Nat) : Int)) ∧ Ch (fun _ => False) w w' := by
 refine yA Tryz.func21 rfl <| yx 1 <| yx 1 <| ys <| yx 3 <| q8 <| qT [3, 6, 7, 8] (f' := [(3, .int .u64 0), (6, .slice (some ⟨fb, fo, none⟩) kn kn), (7, iX ((kn : Nat) : Int)), (8, iX 0)]) <| qz (σ := Nat × Int) (fun ⟨k, x⟩ => [(3, .int .u64 x), (6, .slice (some ⟨fb, fo, none⟩) kn kn), (7, iX ((kn : Nat) : Int)), (8, iX ((k : Nat) : Int))]) (fun ⟨k, x⟩ u => k ≤ kn ∧ x = ((qaB (lb l) k : Nat) : Int) ∧ Ch (fun _ => False) w u) (fun ⟨k, x⟩ => kn - k) (0, 0) rfl ?_ ?_
 ·exact ⟨Nat.zero_le _, rfl, Ch.refl _ _⟩
 intro p n f r d; obtain ⟨k, x⟩ := p; obtain ⟨hk, hx, b⟩ := f; have g := qbN (lb l) k; have h := zu (zm w) b iZ; have j := Ch.rd b hr id; refine yx 1 <| ys <| yc (rL ((k : Nat) : Int) ((kn : Nat) : Int)) (fun m => ?_) fun m => ?_
 ·refine yk <| ys <| q8 <| ysr <| yp 5 [] (.i ((k : Nat) : Int) (kn) (.l (o := (fo + (((k : Nat) : Int)).toNat * 1)) (qmt j (k := k) (by omega)) .z)) <| ye <| yx 1 <| yc (rY (lb l k)) (fun c => ?_) fun c => ?_
  ·refine q7 <| yp 5 [] (.p (q := 0 ≤ (((k : Nat) : Int) : Int)) (by omega) .z) <| yE (nB (nS ?_)); refine q7 <| yp 2 [] (.q6 (((k : Nat) : Int) + 1) .z) <| yE (fun a ha => d (k + 1, orF x k) _ ⟨by omega, by rw [hx, orF_eq (by omega) g, qaB, c, if_pos rfl], b⟩ (by show kn - (k + 1) < kn - k; omega) a (ha.kp [3, 6, 7, 8]))
  refine qr (nB (nS ?_)); refine q7 <| yp 2 [] (.q6 (((k : Nat) : Int) + 1) .z) <| yE (fun a ha => d (k + 1, x) _ ⟨by omega, by rw [hx, qaB, c]; simp, b⟩ (by show kn - (k + 1) < kn - k; omega) a (ha.kp [3, 6, 7, 8]))
 refine qo (eS (qg (qd (nS ?_)))); refine yx 2 <| qe (yR1 (.int .u64 x) ?_); exact ⟨by rw [hx, show k = kn by omega, ← hl]; rfl, Up.ch h⟩
set_option maxHeartbeats 4000000 in
theorem qej {o : Option Nat} {n cap : Nat} {xs : List Int} {w : World} (hO : Own w tU8 1 o n cap (u8s xs)) (c : Cur) (hc : CurB c) (hz : n + 40 ≤ 1000000000) : Calls Tryz.prog 22 [.slice (o.map at0) n cap, .agg #[iX c.x, iX c.y, .bool c.late, .bool c.sty.bold, .bool c.sty.under, .bool c.sty.turned, iX c.sty.fore, iX c.sty.back]].toArray w fun e w' => ∃ o' n' cap', e = .returned (.slice (o'.map at0) n' cap') ∧ Own w' tU8 1 o' n' cap' (u8s (xs ++ qc5 c)) ∧ n' ≤ n + 40 ∧ App w w' o o' := by
 have a9 := qd9 hc.s; have aa := qfj [c.late] (by simp); have ab := hc.x; have ac := hc.y; refine yA Tryz.func22 rfl <| ysr <| yo (yN [iX c.x, iX c.y, .bool c.late, .bool c.sty.bold, .bool c.sty.under, .bool c.sty.turned, iX c.sty.fore, iX c.sty.back] 46 fun ad J ae af K A => ?_); have f := zv (b := J) hO; have L := hO.ch A iZ; have M := (App.refl w o).step A iZ; refine yz 2 <| ys <| qG (fun b => o = some b) [15] (by kernel_rfl) (fun ag ah t => ?_); have B := L.ch t iZ; have N := M.step t iZ; have g := K.ch t id; refine ydC [0, 1, 2, 3, 4, 5, 6, 7, 8, 13, 14] [3, 6] (fun u hu => (.l (qf hu (g.c 0) (fun h => f _ h rfl)) (.p (q := InR .u64 c.x) (qaO (by omega) (by omega)) (.l (qf hu (g.c 1) (fun h => f _ h rfl)) (.p (q := InR .u64 c.y) (qaO (by omega) (by omega)) (.l (qf hu (g.c 2) (fun h => f _ h rfl)) (.a (qB hu (g.cs 3 5) (fun h => f _ h rfl)) .z))))))) <| yH 9 (yB [.bool c.late] 4 1 fun ai C aj ak D k => ?_); have E := zv (b := C) B; have O := B.ch k iZ; have P := N.step k iZ; have Q := g.ch k id; refine qj k eZ <| yH 10 (yQ (qfk C 0 1 [c.late] _ (Rd.all (cs := [c.late].map Value.bool) D) rfl (by decide)) fun al i => ?_); have F := O.ch i iZ; have R := P.step i iZ; have S := Q.ch i id; have T := D.ch i id; refine qj i eZ <| yH 11 (yB [.int .u64 c.x, .int .u64 c.y, .int .u64 ((qY [c.late] : Nat) : Int)] 61 3 fun am G an ao m j => ?_); have v := zv (b := G) F; have U := F.ch j iZ; have V := R.step j iZ; have H := S.ch j id
 have I := T.ch j id; refine qj j eZ ?_; refine yH 12 (yC (qau o n cap xs G 3 [c.x, c.y, ((qY [c.late] : Nat) : Int)] _ U (Rd.all m) rfl (by intro x hx; simp only [List.mem_cons, List.not_mem_nil, or_false] at hx; rcases hx with rfl | rfl | rfl <;> (constructor <;> omega)) m.lt v (by omega)) ?_); rintro _ ap ⟨aq, ar, au, rfl, W, av, d⟩; refine ⟨_, rfl, ?_⟩; have X := d.apart H.lt f; have Y := d.apart I.lt E; have Z := d.apart m.lt v; have a0 := V.trans d; have a1 := H.ch d.ch (fun h => f _ h rfl); have a2 := I.ch d.ch (fun h => E _ h rfl); have a3 := m.ch d.ch (fun h => v _ h rfl); refine qj d.ch iZ <| yK 15 (yC (qcV W c.sty hc.s (by omega)) ?_); rintro _ aw ⟨a4, a5, a6, rfl, a7, ax, r⟩; refine ⟨_, rfl, ?_⟩; have ay := r.apart a1.lt X; have az := r.apart a2.lt Y; have aA := r.apart a3.lt Z; have a8 := a0.trans r; refine q9 <| yd [16] [] .z <| yDe (nS ?_); refine qe (yR1 (.slice (a4.map at0) a5 a6) ?_); exact ⟨_, _, _, rfl, by have h := a7; unfold qc5; simp only [qay, qaX, List.append_assoc, List.append_nil, Int.toNat_natCast] at h ⊢; exact h, by omega, a8⟩
set_option maxHeartbeats 4000000 in
theorem qkx {o : Option Nat} {n cap : Nat} {xs : List Int} {w : World} (hO : Own w tU8 1 o n cap (u8s xs)) (p : PS) (hp : ParB p) (pa : Option Addr) (pn pc : Nat) (hq : Rd w pa (p.params.map (Value.int .i64))) (hql : p.params.length = pn) (hqz : pn = 0 ∨ ∃ b f, pa = some ⟨b, f, none⟩) (hpne : ∀ x, o = some x → ∀ b f, pa = some ⟨b, f, none⟩ → ¬ x = b) (hz : n + 20000 ≤ 1000000000) : Calls Tryz.prog 24 [.slice (o.map at0) n cap, .agg (p.vals (.slice pa pn pc)).toArray].toArray w fun e w' => ∃ o' n' cap', e = .returned (.slice (o'.map at0) n' cap') ∧ Own w' tU8 1 o' n' cap' (u8s (xs ++ qfw p)) ∧ n' ≤ n + 20000 ∧ App w w' o o' := by
 have cv := hp.st; have cw := hp.wi; have cx := hp.u; have cy := hp.m; have cz := hp.n; have cA := hp.t; have cB := qdU hp.u; have cC := qbx p.utf.pend; refine yA Tryz.func24 rfl <| ysr <| yo (yN [iX p.state, uX p.utf.b0, uX p.utf.b1, uX p.utf.b2, iX p.utf.n, .string p.marks, .slice pa pn pc, .string p.text, iX p.within] 55 fun wb bx cD cE aP ag => ?_); have d := zv (b := bx) hO; have aQ := hO.ch ag iZ; have aR := (App.refl w o).step ag iZ; refine yz 2 <| qdc (σ := Option Nat × Nat × Nat) (fun ⟨y, K, N⟩ => [(0, .slice (y.map at0) K N), (3, pX bx)]) (fun ⟨y, K, N⟩ u => Own u tU8 1 y K N (u8s ((xs ++ qab [p.state, p.within]) ++ qde (qm p.utf.pend))) ∧ App w u o y ∧ K ≤ n + 100 ∧ Blk u bx [iX p.state, uX p.utf.b0, uX p.utf.b1, uX p.utf.b2, iX p.utf.n, .string p.marks, .slice pa pn pc, .string p.text, iX p.within] 55 ∧ ∀ b, y = some b → ¬ b = bx) (fun cF a2 => ?_) (fun gs u18 aS => ?_)
 ·refine qG (fun b => o = some b) [16] (by kernel_rfl) (fun aT cG a3 => ?_); have O := aQ.ch a3 iZ; have ah := aR.step a3 iZ; have B := aP.ch a3 id; refine ydC [0, 1, 2, 3, 4, 5, 6, 9, 10, 11, 12, 13, 14] [3, 6] (fun u hu => (.l (qf hu (B.c 0) (fun h => d _ h rfl)) (.p (q := InR .u64 p.state) (qaO (by omega) (by omega)) (.l (qf hu (B.c 8) (fun h => d _ h rfl)) (.p (q := InR .u64 p.within) (qaO (by omega) (by omega)) (.l (qf hu (B.c 4) (fun h => d _ h rfl)) (.j p.utf.n (3) .z))))))) <| qba 7 15 (by kernel_rfl) (by decide) ?_ ?_
  ·refine qaG 7 _ (by kernel_rfl) rfl (yB [.int .u64 p.state, .int .u64 p.within] 61 2 fun aU a4 cH cI g P => ?_); have C := zv (b := a4) O; have ai := O.ch P iZ; have aj := ah.step P iZ; have L := B.ch P id; refine qj P eZ <| qba 8 15 (by kernel_rfl) (by decide) ?_ ?_
   ·refine qaG 8 _ (by kernel_rfl) rfl (yC (qau o n cap xs a4 2 [p.state, p.within] _ ai (Rd.all g) rfl (by intro x hx; simp only [List.mem_cons, List.not_mem_nil, or_false] at hx; rcases hx with rfl | rfl <;> (constructor <;> omega)) g.lt C (by omega)) ?_); rintro _ aV ⟨cJ, cK, cL, rfl, aW, cM, D⟩; refine ⟨_, rfl, ?_⟩; have ak := D.apart L.lt d; have aX := D.apart g.lt C; have aY := aj.trans D; have a5 := L.ch D.ch (fun h => d _ h rfl); have aZ := g.ch D.ch (fun h => C _ h rfl); refine qj D.ch iZ <| yH 15 (qaR (some ⟨bx, 1, none⟩) (p.utf.n : Int).toNat 3 p.utf.pend (some 22) (by kernel_rfl) (qh4 a5) (qdU hp.u) ?_); refine qj (zr aV) eZ <| yK 16 (yC (qaK aW (qm p.utf.pend) (by omega)) ?_); rintro _ cN ⟨b3, b4, b5, rfl, b6, cO, Q⟩; refine ⟨_, rfl, ?_⟩; have b7 := Q.apart a5.lt ak; have cP := Q.apart aZ.lt aX; have b8 := aY.trans Q; have b9 := a5.ch Q.ch (fun h => ak _ h rfl); refine q9 <| yd [17] [] .z <| yDe (fun a ha => a2 (b3, b4, b5) _ ⟨b6, b8, by omega, b9, b7⟩ a (ha.kp [0, 3]))
   refine qaG 15 _ (by kernel_rfl) rfl (qaR (some ⟨bx, 1, none⟩) (p.utf.n : Int).toNat 3 p.utf.pend (some 22) (by kernel_rfl) (qh4 L) (qdU hp.u) ?_); refine qj (zr aU) eZ ?_; refine yH 8 (yC (qau o n cap xs a4 2 [p.state, p.within] _ ai (Rd.all g) rfl (by intro x hx; simp only [List.mem_cons, List.not_mem_nil, or_false] at hx; rcases hx with rfl | rfl <;> (constructor <;> omega)) g.lt C (by omega)) ?_); rintro _ cQ ⟨cR, cS, cT, rfl, ba, cU, E⟩; refine ⟨_, rfl, ?_⟩; have al := E.apart L.lt d; have bb := E.apart g.lt C; have bc := aj.trans E; have am := L.ch E.ch (fun h => d _ h rfl); have bd := g.ch E.ch (fun h => C _ h rfl); refine qj E.ch iZ <| yK 16 (yC (qaK ba (qm p.utf.pend) (by omega)) ?_); rintro _ cV ⟨bf, bg, bh, rfl, bi, cW, R⟩; refine ⟨_, rfl, ?_⟩; have bj := R.apart am.lt al; have cX := R.apart bd.lt bb; have bk := bc.trans R; have bl := am.ch R.ch (fun h => al _ h rfl); refine q9 <| yd [17] [] .z <| yDe (fun a ha => a2 (bf, bg, bh) _ ⟨bi, bk, by omega, bl, bj⟩ a (ha.kp [0, 3]))
  refine qaG 15 _ (by kernel_rfl) rfl (qaR (some ⟨bx, 1, none⟩) (p.utf.n : Int).toNat 3 p.utf.pend (some 22) (by kernel_rfl) (qh4 B) (qdU hp.u) ?_); refine qj (zr aT) eZ <| yH 7 (yB [.int .u64 p.state, .int .u64 p.within] 61 2 fun cY an cZ d0 S T => ?_); have a6 := zv (b := an) O; have bm := O.ch T iZ; have bn := ah.step T iZ; have ao := B.ch T id; refine qj T eZ ?_; refine yH 8 (yC (qau o n cap xs an 2 [p.state, p.within] _ bm (Rd.all S) rfl (by intro x hx; simp only [List.mem_cons, List.not_mem_nil, or_false] at hx; rcases hx with rfl | rfl <;> (constructor <;> omega)) S.lt a6 (by omega)) ?_); rintro _ d1 ⟨d2, d3, d4, rfl, bo, d5, F⟩; refine ⟨_, rfl, ?_⟩; have ap := F.apart ao.lt d; have bp := F.apart S.lt a6; have bq := bn.trans F; have aq := ao.ch F.ch (fun h => d _ h rfl); have br := S.ch F.ch (fun h => a6 _ h rfl); refine qj F.ch iZ <| yK 16 (yC (qaK bo (qm p.utf.pend) (by omega)) ?_); rintro _ d6 ⟨bs, bt, bu, rfl, bv, d7, U⟩; refine ⟨_, rfl, ?_⟩; have bw := U.apart aq.lt ap; have d8 := U.apart br.lt bp; have bz := bq.trans U; have bA := aq.ch U.ch (fun h => ap _ h rfl); refine q9 <| yd [17] [] .z <| yDe (fun a ha => a2 (bs, bt, bu) _ ⟨bv, bz, by omega, bA, bw⟩ a (ha.kp [0, 3]))
 obtain ⟨y, K, N⟩ := gs; obtain ⟨bB, bC, d9, bD, G⟩ := aS; refine qdc (σ := Option Nat × Nat × Nat) (fun ⟨r, s, H⟩ => [(0, .slice (r.map at0) s H), (3, pX bx)]) (fun ⟨r, s, H⟩ u => Own u tU8 1 r s H (u8s ((((xs ++ qab [p.state, p.within]) ++ qde (qm p.utf.pend)) ++ qde p.marks) ++ qab [((pn : Nat) : Int)])) ∧ App w u o r ∧ s ≤ n + 5000 ∧ Blk u bx [iX p.state, uX p.utf.b0, uX p.utf.b1, uX p.utf.b2, iX p.utf.n, .string p.marks, .slice pa pn pc, .string p.text, iX p.within] 55 ∧ ∀ b, r = some b → ¬ b = bx) (fun da ar => ?_) (fun gs u120 bE => ?_)
 ·refine qG (fun b => y = some b) [9] (by kernel_rfl) (fun db dc a7 => ?_); have a8 := bB.ch a7 iZ; have au := bC.step a7 iZ; have M := bD.ch a7 id; refine ydC [0, 1, 2, 4, 5, 6, 7] [7] (fun u hu => (.l (qf hu (M.c 5) (fun h => G _ h rfl)) (.l (qf hu (M.c 6) (fun h => G _ h rfl)) (.p (q := InR .u64 ((pn : Nat) : Int)) (qaO (by omega) (by omega)) .z)))) <| qba 3 8 (by kernel_rfl) (by decide) ?_ ?_
  ·refine qaG 3 _ (by kernel_rfl) rfl (yC (qaK a8 p.marks (by omega)) ?_); rintro _ dd ⟨bF, bG, bH, rfl, av, de, V⟩; refine ⟨_, rfl, ?_⟩; have aw := V.apart M.lt G; have bI := au.trans V; have bJ := M.ch V.ch (fun h => G _ h rfl); refine qj V.ch iZ <| yH 8 (yB [.int .u64 ((pn : Nat) : Int)] 61 1 fun df ax dg dh a9 W => ?_); have ay := zv (b := ax) av; have az := bJ.ch W id; have bK := av.ch W iZ; have bL := bI.step W iZ; refine qj W eZ ?_; refine yK 9 (yC (qau bF bG bH (((xs ++ qab [p.state, p.within]) ++ qde (qm p.utf.pend)) ++ qde p.marks) ax 1 [((pn : Nat) : Int)] _ bK (Rd.all a9) rfl (by intro x hx; simp only [List.mem_cons, List.not_mem_nil, or_false] at hx; subst hx; constructor <;> omega) a9.lt ay (by omega)) ?_); rintro _ di ⟨bM, bN, bO, rfl, bP, dj, X⟩; refine ⟨_, rfl, ?_⟩; have bQ := X.apart az.lt aw; have dk := X.apart a9.lt ay; have bR := bL.trans X; have bS := az.ch X.ch (fun h => aw _ h rfl); refine q9 <| yd [10] [] .z <| yDe (fun a ha => ar (bM, bN, bO) _ ⟨bP, bR, by omega, bS, bQ⟩ a (ha.kp [0, 3]))
  refine qaG 8 _ (by kernel_rfl) rfl (yB [.int .u64 ((pn : Nat) : Int)] 61 1 fun dl aA dm dn aB Y => ?_); have aC := zv (b := aA) a8; have bT := a8.ch Y iZ; have bU := au.step Y iZ; have aD := M.ch Y id; refine qj Y eZ <| yH 3 (yC (qaK bT p.marks (by omega)) ?_); rintro _ dp ⟨bV, bW, bX, rfl, bY, dq, I⟩; refine ⟨_, rfl, ?_⟩; have aE := I.apart aD.lt G; have aF := I.apart aB.lt aC; have bZ := bU.trans I; have aG := aD.ch I.ch (fun h => G _ h rfl); have aa := aB.ch I.ch (fun h => aC _ h rfl); refine qj I.ch iZ ?_; refine yK 9 (yC (qau bV bW bX (((xs ++ qab [p.state, p.within]) ++ qde (qm p.utf.pend)) ++ qde p.marks) aA 1 [((pn : Nat) : Int)] _ bY (Rd.all aa) rfl (by intro x hx; simp only [List.mem_cons, List.not_mem_nil, or_false] at hx; subst hx; constructor <;> omega) aa.lt aF (by omega)) ?_); rintro _ dr ⟨c0, c2, c3, rfl, c4, ds, Z⟩; refine ⟨_, rfl, ?_⟩; have c5 := Z.apart aG.lt aE; have dt := Z.apart aa.lt aF; have c6 := bZ.trans Z; have c9 := aG.ch Z.ch (fun h => aE _ h rfl); refine q9 <| yd [10] [] .z <| yDe (fun a ha => ar (c0, c2, c3) _ ⟨c4, c6, by omega, c9, c5⟩ a (ha.kp [0, 3]))
 obtain ⟨r, s, H⟩ := gs; obtain ⟨ca, cb, du, aH, cc⟩ := bE; refine ys <| ysr <| yp 4 [] (.l (aH.c 6) .z) <| ye <| q8 <| qT [0, 3, 35, 36, 37] (f' := [(0, .slice (r.map at0) s H), (3, pX bx), (35, .slice pa pn pc), (36, iX ((pn : Nat) : Int)), (37, iX 0)]) <| qz (σ := Nat × Option Nat × Nat × Nat) (fun ⟨k, v, A, J⟩ => [(0, .slice (v.map at0) A J), (3, pX bx), (35, .slice pa pn pc), (36, iX ((pn : Nat) : Int)), (37, iX ((k : Nat) : Int))]) (fun ⟨k, v, A, J⟩ u => k ≤ pn ∧ Own u tU8 1 v A J (u8s (((((xs ++ qab [p.state, p.within]) ++ qde (qm p.utf.pend)) ++ qde p.marks) ++ qab [((pn : Nat) : Int)]) ++ (p.params.take k).flatMap (fun x => qaA x.toNat))) ∧ App w u o v ∧ A ≤ s + 10 * k ∧ Blk u bx [iX p.state, uX p.utf.b0, uX p.utf.b1, uX p.utf.b2, iX p.utf.n, .string p.marks, .slice pa pn pc, .string p.text, iX p.within] 55 ∧ ∀ b, v = some b → ¬ b = bx) (fun ⟨k, v, A, J⟩ => pn - k) (0, r, s, H) rfl ?_ ?_
 ·exact ⟨Nat.zero_le _, by rw [List.take_zero]; exact (by rw [List.flatMap_nil, List.append_nil]; exact ca), cb, Nat.le_refl _, aH, cc⟩
 intro q dv cd dw ce; obtain ⟨k, v, A, J⟩ := q; obtain ⟨hk, a0, ab, dx, ac, ad⟩ := cd; refine yx 1 <| ys <| yc (rL ((k : Nat) : Int) ((pn : Nat) : Int)) (fun cf => ?_) fun cf => ?_
 ·obtain ⟨pb, po, rfl⟩ := hqz.resolve_left (by omega); have dy := hp.b _ (qdQ (l := p.params) (k := k) (by omega)); refine yk <| ys <| q8 <| ysr <| yp 3 [] (.i ((k : Nat) : Int) (pn) (.l (o := (po + (((k : Nat) : Int)).toNat * 1)) (qdo (Ch.rd ab.ch hq (fun h => hpne _ h _ _ rfl rfl)) (by omega)) .z)) <| ye <| q7 <| yp 3 [2] (.p (q := InR .u64 (p.params.getD k 0)) (qaO (by omega) (by omega)) .z) <| yo (yB [.int .u64 (p.params.getD k 0)] 61 1 fun dz aI dA dB ae af => ?_); have aJ := zv (b := aI) a0; have cg := a0.ch af iZ; have ci := ab.step af iZ; have aK := ac.ch af id; refine yo (yC (qau v A J (((((xs ++ qab [p.state, p.within]) ++ qde (qm p.utf.pend)) ++ qde p.marks) ++ qab [((pn : Nat) : Int)]) ++ (p.params.take k).flatMap (fun x => qaA x.toNat)) aI 1 [(p.params.getD k 0)] _ cg (Rd.all ae) rfl (by intro x hx; simp only [List.mem_cons, List.not_mem_nil, or_false] at hx; subst hx; constructor <;> omega) ae.lt aJ (by omega)) ?_); rintro _ cj ⟨aL, aM, aN, rfl, ck, dC, a1⟩; refine ⟨_, rfl, ?_⟩; have cl := a1.apart aK.lt ad; have dD := a1.apart ae.lt aJ; have cm := ci.trans a1; have cn := aK.ch a1.ch (fun h => ad _ h rfl); refine yq 6 <| yE (nB (nS ?_)); refine q7 <| yp 2 [] (.q6 (((k : Nat) : Int) + 1) .z) ?_; have co : Own cj tU8 1 aL aM aN (u8s (((((xs ++ qab [p.state, p.within]) ++ qde (qm p.utf.pend)) ++ qde p.marks) ++ qab [((pn : Nat) : Int)]) ++ (p.params.take (k + 1)).flatMap (fun x => qaA x.toNat))) := by
   have h := ck; rw [qfg (by omega)]; simp only [qay, qaX, List.flatMap_append, List.flatMap_cons, List.flatMap_nil, List.append_assoc, List.append_nil] at h ⊢; exact h
  refine yE (fun a ha => ce (k + 1, aL, aM, aN) _ ⟨by omega, co, cm, by omega, cn, cl⟩ (by show pn - (k + 1) < pn - k; omega) a (ha.kp [0, 3, 35, 36, 37]))
 have cp : k = p.params.length := by omega
 rw [cp, List.take_length] at a0; refine qo (eS (qg (qd (nS ?_)))); refine ysr <| yp 3 [] (.l (ac.c 7) .z) <| yo (yC (qaK a0 p.text (by omega)) ?_); rintro _ dE ⟨cq, cr, cs, rfl, ct, dF, aO⟩; refine ⟨_, rfl, ?_⟩; have dG := aO.apart ac.lt ad; have cu := ab.trans aO; refine yz 5 <| qe (yR1 (.slice (cq.map at0) cr cs) ?_); exact ⟨_, _, _, rfl, by have h := ct; unfold qfw; simp only [qay, qaX, List.append_assoc, List.append_nil, Int.toNat_natCast] at h ⊢; rw [hql]; exact h, by omega, cu⟩
structure EncOk (T : TS) : Prop where
  w : 0 ≤ T.grid.w ∧ T.grid.w ≤ 1000
  h : 0 ≤ T.grid.h ∧ T.grid.h ≤ 1000
  t : (0 ≤ T.top ∧ T.top ≤ 1000) ∧ 0 ≤ T.bot ∧ T.bot ≤ 1000
  c : CurB T.cursor
  s : CurB T.saved
  a : CurB T.away
  g : T.grid.lines.length ≤ 60 ∧ ∀ l ∈ T.grid.lines, l.length ≤ 60 ∧ ∀ c ∈ l, cOk c
  o : T.other.lines.length ≤ 60 ∧ ∀ l ∈ T.other.lines, l.length ≤ 60 ∧ ∀ c ∈ l, cOk c
  k : T.back.length ≤ 60 ∧ ∀ l ∈ T.back, l.length ≤ 60 ∧ ∀ c ∈ l, cOk c
  ti : T.title.size ≤ 1000
  r : T.reply.size ≤ 1000
  p : ParB T.parser
theorem CurOk.b {W H : Int} {c : Cur} (h : CurOk W H c) (hW : W ≤ 60) (hH : H ≤ 60) : CurB c := ⟨⟨h.x.1, by have := h.x.2; omega⟩, ⟨h.y.1, by have := h.y.2; omega⟩, h.s⟩
theorem DecOk.enc {T : TS} (h : DecOk T) : EncOk T := by
 have hw := h.w; have hh := h.h; have ht := h.t; refine ⟨by omega, by omega, by omega, h.c.b hw.2 hh.2, h.s.b hw.2 hh.2, h.a.b hw.2 hh.2, ⟨by rw [h.g.1]; omega, fun l hl => ⟨by have := (h.g.2 l hl).1; omega, (h.g.2 l hl).2.2⟩⟩, ⟨by rw [h.g2.1]; omega, fun l hl => ⟨by have := (h.g2.2 l hl).1; omega, (h.g2.2 l hl).2.2⟩⟩, ⟨by have := h.k.1; omega, fun l hl => ⟨(h.k.2 l hl).2.1, (h.k.2 l hl).2.2.2⟩⟩, by have := h.ti; omega, by have := h.r; omega, ?_⟩; have hp := h.p; exact ⟨⟨hp.st.1, by have := hp.st.2; omega⟩, ⟨hp.wi.1, by have := hp.wi.2; omega⟩, hp.u.n, hp.u.pend, by have := hp.m; omega, by have := hp.n; omega, hp.b, by have := hp.t; omega⟩
theorem App.new {w w' : World} {o' : Option Nat} (h : App w w' none o') : ∀ b, o' = some b → w.heap.size ≤ b := fun b e => by
  rcases h.ne with rfl | ⟨g, rfl, hg⟩
  · cases e
  · cases e; exact hg
def qfx (f : Nat → Bool) : List Bool := (List.range 60).map f
theorem tabL_v (f : Nat → Bool) : (qfx f).map Value.bool = qip f := by
 unfold qfx qip; rw [List.map_map]; rfl
theorem tabL_f (f : Nat → Bool) : qY (qfx f) = qaB f 60 := by
 have hl : (qfx f).length = 60 := by simp [qfx]
 unfold qY; rw [hl]; refine qbY fun i hi => ?_; unfold lb qfx; simp [List.getD, hi]
theorem tabs_rd {w : World} {t g o : Nat} {bk ps : Value} {T : TS} (h : Blk w t (T.vals g o bk ps) qae) : Rd w (some ⟨t, 28, none⟩) ((qfx T.tabs).map Value.bool) := by
 rw [tabL_v]; refine ⟨(fun e => by cases e), fun ad e j u hj => ?_⟩; cases e; have hl := (List.getElem?_eq_some_iff.1 hj).1; have a : j < 60 := by simpa [qip] using hl
 have hu : u = .bool (T.tabs j) := by
  unfold qip at hj; rw [List.getElem?_map, List.getElem?_range a] at hj; exact (zi hj).symm
 have := qgv h ((j : Nat) : Int) (by omega) (by omega); rw [Int.toNat_natCast, Nat.mul_one] at this; rw [qbA, hu]; exact this
theorem qbK {rows : List Row} {k : Nat} {q : Row} (h : rows[k]? = some q) : (rows.map Row.l).take (k + 1) = (rows.map Row.l).take k ++ [q.l] := by
 have hk : k < (rows.map Row.l).length := by rw [List.length_map]; exact (List.getElem?_eq_some_iff.1 h).1
 rw [List.take_succ_eq_append_getElem hk]; congr 2; have : (rows.map Row.l)[k]? = some q.l := by rw [List.getElem?_map, h]; rfl
 exact (List.getElem?_eq_some_iff.1 this).2
theorem qek {rows : List Row} {k : Nat} (h : k < rows.length) : ∃ q, rows[k]? = some q ∧ q ∈ rows := ⟨_, List.getElem?_eq_getElem h, List.getElem_mem h⟩
set_option maxHeartbeats 4000000 in
theorem qga {w : World} {t : Nat} {T : TS} {F : Nat → Prop} (hA0 : TermAt w t T F) (he : EncOk T) : Calls Tryz.prog 12 [pX t].toArray w fun e w' =>
 ∃ o n cap, e = .returned (.slice (o.map at0) n cap) ∧ Own w' tU8 1 o n cap (u8s (qeg T)) ∧ n ≤ 1000000 ∧ (∀ b, o = some b → w.heap.size ≤ b) ∧ Ch (fun _ => False) w w' := by
 obtain ⟨g, q, ba, bn, bc, pa, pn, pc, F1, F2, FB, FP, hI⟩ := hA0; obtain ⟨r1, b9, v, D⟩ := hI.g1; obtain ⟨r2, bf, A, E⟩ := hI.g2; obtain ⟨a6, G, a7⟩ := hI.bk; have eB : bn ≤ 60 := by have h1 := G.len; have Y := he.k.1; rw [← a7, List.length_map] at Y; omega
 have eC := he.w; have eD := he.h; have eE := he.t; have eF := he.ti; have eG := he.r; have eH := qfj [T.wrap, T.origin, T.insert, T.hidden, T.alt, T.draw0, T.draw1, T.shift] (by simp); have eI := qfj (qfx T.tabs) (by simp [qfx]); refine yA Tryz.func12 rfl <| yx 1 <| ys <| yD [26, 27] fun eJ eK bg => ?_; have bh := (Own.nil w tU8 1).ch bg iZ; have M := (App.refl w none).step bg iZ; refine yd (uL 0 26) [7, 15, 20, 25] (.l (qf (qp M.ch) (hI.blk.c 0) id) (.l (qf (qp M.ch) (D.head.c 0) id) (.p (q := InR .u64 T.grid.w) (qaO (by omega) (by omega)) (.l (qf (qp M.ch) (hI.blk.c 0) id) (.l (qf (qp M.ch) (D.head.c 1) id) (.p (q := InR .u64 T.grid.h) (qaO (by omega) (by omega)) (.l (qf (qp M.ch) (hI.blk.c 26) id) (.p (q := InR .u64 T.top) (qaO (by omega) (by omega)) (.l (qf (qp M.ch) (hI.blk.c 27) id) (.p (q := InR .u64 T.bot) (qaO (by omega) (by omega)) .z)))))))))) <| yK 26 (yB [.int .u64 T.grid.w, .int .u64 T.grid.h, .int .u64 T.top, .int .u64 T.bot] 61 4 fun eL ag cr eM ah bi => ?_); have aF := zv (b := ag) bh; have eN : w.heap.size ≤ ag := by rw [cr]; exact M.ch.size
 have ct := bh.ch bi iZ; have cu := M.step bi iZ; refine q9 ?_; refine yK 27 (yC (qau none 0 0 ([] : List Int) ag 4 [T.grid.w, T.grid.h, T.top, T.bot] _ ct (Rd.all ah) rfl (by intro x hx; simp only [List.mem_cons, List.not_mem_nil, or_false] at hx; rcases hx with rfl | rfl | rfl | rfl <;> (constructor <;> omega)) ah.lt aF (by omega)) ?_); rintro _ eO ⟨cv, cw, cx, rfl, cy, eP, aG⟩; refine ⟨_, rfl, ?_⟩; have bj := aG.apart ah.lt aF; have cz := cu.trans aG; have cA := ah.ch aG.ch (fun h => aF _ h rfl); refine q9 <| yd [28] [] .z <| yDe (nS ?_); refine ys <| yD [35, 36, 41, 42, 43] fun eQ eR aH => ?_; have cB := cA.ch aH id; have bl := cy.ch aH iZ; have H := cz.step aH iZ; refine yd [0, 1, 2, 3, 4, 5, 6, 7, 8, 9, 10, 11, 12, 13, 14, 15, 16, 17, 18, 19, 20, 21, 22, 23, 24, 25, 26, 27, 28, 29, 30, 31, 32, 33, 34, 37, 38, 39, 40] [] (.l (qf (qp H.ch) (hI.blk.c 88) id) (.l (qf (qp H.ch) (hI.blk.c 89) id) (.l (qf (qp H.ch) (hI.blk.c 90) id) (.l (qf (qp H.ch) (hI.blk.c 91) id) (.l (qf (qp H.ch) (hI.blk.c 95) id) (.i 0 (2) (.l (qf (qp H.ch) (hI.blk.c 92) id) (.i 1 (2) (.l (qf (qp H.ch) (hI.blk.c 93) id) (.l (qf (qp H.ch) (hI.blk.c 94) id) .z)))))))))) <| yK 35 (yB [.bool T.wrap, .bool T.origin, .bool T.insert, .bool T.hidden, .bool T.alt, .bool T.draw0, .bool T.draw1, .bool T.shift] 4 8 fun eT ai cC eU bm aI => ?_); have bp := zv (b := ai) bl; have eV : w.heap.size ≤ ai := by rw [cC]; exact H.ch.size
 have cD := cB.ch aI id; have cE := bl.ch aI iZ; have cF := H.step aI iZ; refine q9 <| yK 36 (yQ (qfk ai 0 8 [T.wrap, T.origin, T.insert, T.hidden, T.alt, T.draw0, T.draw1, T.shift] _ (Rd.all (cs := [T.wrap, T.origin, T.insert, T.hidden, T.alt, T.draw0, T.draw1, T.shift].map Value.bool) bm) rfl (by decide)) fun eW aj => ?_); have cG := cD.ch aj id; have cH := cE.ch aj iZ; have bq := cF.step aj iZ; have cI := bm.ch aj id; refine q9 <| yK 41 (yQ (qfk t 28 60 (qfx T.tabs) _ (Ch.rd (qp bq.ch) (tabs_rd hI.blk) id) (by simp [qfx]) (by decide)) fun eX ak => ?_); have cJ := cG.ch ak id; have br := cH.ch ak iZ; have bs := bq.step ak iZ; have cK := cI.ch ak id; refine q9 <| yK 42 (yB [.int .u64 ((qY [T.wrap, T.origin, T.insert, T.hidden, T.alt, T.draw0, T.draw1, T.shift] : Nat) : Int), .int .u64 ((qY (qfx T.tabs) : Nat) : Int)] 61 2 fun eY al cL eZ am an => ?_); have aJ := zv (b := al) br; have fa : w.heap.size ≤ al := by rw [cL]; exact bs.ch.size
 have bt := cJ.ch an id; have cM := br.ch an iZ; have cN := bs.step an iZ; have bu := cK.ch an id; refine q9 ?_; refine yK 43 (yC (qau cv cw cx (([] : List Int) ++ qab [T.grid.w, T.grid.h, T.top, T.bot]) al 2 [((qY [T.wrap, T.origin, T.insert, T.hidden, T.alt, T.draw0, T.draw1, T.shift] : Nat) : Int), ((qY (qfx T.tabs) : Nat) : Int)] _ cM (Rd.all am) rfl (by intro x hx; simp only [List.mem_cons, List.not_mem_nil, or_false] at hx; rcases hx with rfl | rfl <;> (constructor <;> omega)) am.lt aJ (by omega)) ?_); rintro _ fb ⟨fc, fd, fe, rfl, cO, ff, R⟩; refine ⟨_, rfl, ?_⟩; have cP := R.apart bt.lt bj; have cQ := R.apart bu.lt bp; have cR := R.apart am.lt aJ; have cS := cN.trans R; have cT := bt.ch R.ch (fun h => bj _ h rfl); have cU := bu.ch R.ch (fun h => bp _ h rfl); have cV := am.ch R.ch (fun h => aJ _ h rfl); refine q9 <| yd [44] [] .z <| yDe (nS ?_); refine ys <| ys <| yD [12] fun fg fh a8 => ?_; have cW := cT.ch a8 id; have cX := cU.ch a8 id; have cY := cV.ch a8 id; have bv := cO.ch a8 iZ; have a9 := cS.step a8 iZ; refine yd [0, 1, 2, 3, 4, 5, 6, 7, 8, 9, 10, 11, 14] [] (.a (qB (qp a9.ch) (hI.blk.cs 2 8) id) (.a (qB (qp a9.ch) (hI.blk.cs 10 8) id) (.a (qB (qp a9.ch) (hI.blk.cs 18 8) id) .z))) <| yK 12 (yB [iX T.cursor.x, iX T.cursor.y, .bool T.cursor.late, .bool T.cursor.sty.bold, .bool T.cursor.sty.under, .bool T.cursor.sty.turned, iX T.cursor.sty.fore, iX T.cursor.sty.back, iX T.saved.x, iX T.saved.y, .bool T.saved.late, .bool T.saved.sty.bold, .bool T.saved.sty.under, .bool T.saved.sty.turned, iX T.saved.sty.fore, iX T.saved.sty.back, iX T.away.x, iX T.away.y, .bool T.away.late, .bool T.away.sty.bold, .bool T.away.sty.under, .bool T.away.sty.turned, iX T.away.sty.fore, iX T.away.sty.back] 46 3 fun fi aa cZ fj aK ab => ?_)
 have bw := zv (b := aa) bv; have fk : w.heap.size ≤ aa := by rw [cZ]; exact a9.ch.size
 have bx := cW.ch ab id; have bA := cX.ch ab id; have bB := cY.ch ab id; have bC := bv.ch ab iZ; have bD := a9.step ab iZ; refine q9 <| yd [13] [] .z <| yDe (nS ?_); refine q8 <| yU 4 (yU1 ?_); refine yx 1 <| ys <| yct <| yk <| ys <| q8 <| ysr <| yp 2 [] (.i 0 (3) (.a (aK.cs 0 8) .z)) <| yo (yN [iX 0, iX 0, .bool false, .bool false, .bool false, .bool false, iX 0, iX 0] 46 fun fl N d0 fm d1 Z => ?_); have bE := zv (b := N) bC; have d2 : w.heap.size ≤ N := by rw [d0]; exact bD.ch.size
 have d3 := bx.ch Z id; have d4 := bA.ch Z id; have d5 := bB.ch Z id; have d6 := bC.ch Z iZ; have d7 := bD.step Z iZ; have d8 := aK.ch Z id; refine yo (yT [iX T.cursor.x, iX T.cursor.y, .bool T.cursor.late, .bool T.cursor.sty.bold, .bool T.cursor.sty.under, .bool T.cursor.sty.turned, iX T.cursor.sty.fore, iX T.cursor.sty.back] d1 fun fn bF a0 => ?_); have d9 := d3.ch a0 (fun (h : ag = N) => by have := bx.lt; omega); have da := d4.ch a0 (fun (h : ai = N) => by have := bA.lt; omega); have db := d5.ch a0 (fun (h : al = N) => by have := bB.lt; omega); have dc := d6.ch a0 (fun b e (h : b = N) => bE b e h); have dd := d7.step a0 (fun i hi (h : i = N) => by have := d2; omega); have bG := d8.ch a0 (fun (h : aa = N) => by have := aK.lt; omega); refine ye <| q7 <| yp 2 [] (.a (bF.cs 0 8) .z) <| yo (yC (qej dc T.cursor he.c (by omega)) ?_); rintro _ fo ⟨fp, fq, fr, rfl, bH, fs, S⟩; refine ⟨_, rfl, ?_⟩; have ft := S.apart d9.lt cP; have fu := S.apart da.lt cQ; have fv := S.apart db.lt cR; have bI := S.apart bG.lt bw; have fw := S.apart bF.lt bE; have bJ := dd.trans S; have aL := bG.ch S.ch (fun h => bw _ h rfl); refine yq 4 <| yE (nB (nS ?_)); refine q7 <| yp 2 [] (.q6 1 .z) <| yE (nU (yU1 ?_)); refine yx 1 <| ys <| yct <| yk <| ys <| q8 <| ysr <| yp 2 [] (.i 1 (3) (.a (aL.cs 8 8) .z)) <| yo (yN [iX 0, iX 0, .bool false, .bool false, .bool false, .bool false, iX 0, iX 0] 46 fun fx ac de fy df aM => ?_); have bK := zv (b := ac) bH; have dg : w.heap.size ≤ ac := by rw [de]; exact bJ.ch.size
 have dh := aL.ch aM id; have di := bH.ch aM iZ; have dj := bJ.step aM iZ; refine yo (yT [iX T.saved.x, iX T.saved.y, .bool T.saved.late, .bool T.saved.sty.bold, .bool T.saved.sty.under, .bool T.saved.sty.turned, iX T.saved.sty.fore, iX T.saved.sty.back] df fun fz bL aN => ?_); have bM := dh.ch aN (fun (h : aa = ac) => by have := aL.lt; omega); have dk := di.ch aN (fun b e (h : b = ac) => bK b e h); have dl := dj.step aN (fun i hi (h : i = ac) => by have := dg; omega); refine ye <| q7 <| yp 2 [] (.a (bL.cs 0 8) .z) <| yo (yC (qej dk T.saved he.s (by omega)) ?_); rintro _ fA ⟨fB, fC, fD, rfl, bN, fE, ao⟩; refine ⟨_, rfl, ?_⟩; have dm := ao.apart bM.lt bI; have fF := ao.apart bL.lt bK; have bO := dl.trans ao; have aO := bM.ch ao.ch (fun h => bI _ h rfl); refine yq 4 <| yE (nB (nS ?_)); refine q7 <| yp 2 [] (.q6 2 .z) <| yE (nU (yU1 ?_)); refine yx 1 <| ys <| yct <| yk <| ys <| q8 <| ysr <| yp 2 [] (.i 2 (3) (.a (aO.cs 16 8) .z)) <| yo (yN [iX 0, iX 0, .bool false, .bool false, .bool false, .bool false, iX 0, iX 0] 46 fun fG ad dn fH dp aP => ?_); have bP := zv (b := ad) bN; have dq : w.heap.size ≤ ad := by rw [dn]; exact bO.ch.size
 have dr := aO.ch aP id; have ds := bN.ch aP iZ; have dt := bO.step aP iZ; refine yo (yT [iX T.away.x, iX T.away.y, .bool T.away.late, .bool T.away.sty.bold, .bool T.away.sty.under, .bool T.away.sty.turned, iX T.away.sty.fore, iX T.away.sty.back] dp fun fI bQ aQ => ?_); have du := dr.ch aQ (fun (h : aa = ad) => by have := aO.lt; omega); have dv := ds.ch aQ (fun b e (h : b = ad) => bP b e h); have dw := dt.step aQ (fun i hi (h : i = ad) => by have := dq; omega); refine ye <| q7 <| yp 2 [] (.a (bQ.cs 0 8) .z) <| yo (yC (qej dv T.away he.a (by omega)) ?_); rintro _ fJ ⟨aR, ap, aS, rfl, dx, fK, aT⟩; refine ⟨_, rfl, ?_⟩; have fL := aT.apart du.lt dm; have fM := aT.apart bQ.lt bP; have dy := dw.trans aT; refine yq 4 <| yE (nB (nS ?_)); refine q7 <| yp 2 [] (.q6 3 .z) <| yE (nU (yU1 ?_)); refine yx 1 <| ys <| ycf <| qo (eS (qg (qd (nS ?_)))); refine ys <| ys <| yD [8] fun fN fO bR => ?_; have bS := dx.ch bR iZ; have aq := dy.step bR iZ; refine yd [0, 1, 2, 3, 4, 5, 6, 7, 10] [] (.l (qf (qp aq.ch) (hI.blk.c 0) id) (.l (qf (qp aq.ch) (hI.blk.c 1) id) .z)) <| yK 8 (yB [pX g, pX q] 42 2 fun fP B dz fQ bT bU => ?_); have dA := zv (b := B) bS; have fR : w.heap.size ≤ B := by rw [dz]; exact aq.ch.size
 have dB := bS.ch bU iZ; have bV := aq.step bU iZ; refine q9 <| yd [9] [] .z <| yDe (nS ?_); refine q8 <| yU 3 (yU1 ?_); refine yx 1 <| ys <| yct <| yk <| ys <| q8 <| ysr <| yf (f' := [(0, pX t), (3, .slice (aR.map at0) ap aS), (7, pX g), (114, .slice (some ⟨B, 0, none⟩) 2 2), (115, iX 2), (116, iX 0)]) 3 [] [0, 3, 7, 114, 115, 116] (.i 0 (2) (.l (bT.c 0) .z)) <| ye <| ysr <| yp 6 [] (.l (qf (qp bV.ch) (D.head.c 2) id) .z) <| ye <| q8 ?_; have dC := he.g.1; rw [← D.lines, List.length_map] at dC; refine qT [0, 3, 114, 115, 116, 123, 124, 125] (f' := [(0, pX t), (3, .slice (aR.map at0) ap aS), (114, .slice (some ⟨B, 0, none⟩) 2 2), (115, iX 2), (116, iX 0), (123, .slice (some ⟨r1, 0, none⟩) v.length b9), (124, iX ((v.length : Nat) : Int)), (125, iX 0)]) <| qz (σ := Nat × Option Nat × Nat × Nat) (fun ⟨j, K, L, U⟩ => [(0, pX t), (3, .slice (K.map at0) L U), (114, .slice (some ⟨B, 0, none⟩) 2 2), (115, iX 2), (116, iX 0), (123, .slice (some ⟨r1, 0, none⟩) v.length b9), (124, iX ((v.length : Nat) : Int)), (125, iX ((j : Nat) : Int))]) (fun ⟨j, K, L, U⟩ u => j ≤ v.length ∧ Own u tU8 1 K L U (u8s ((((((([] : List Int) ++ qab [T.grid.w, T.grid.h, T.top, T.bot]) ++ qab [((qY [T.wrap, T.origin, T.insert, T.hidden, T.alt, T.draw0, T.draw1, T.shift] : Nat) : Int), ((qY (qfx T.tabs) : Nat) : Int)]) ++ qc5 T.cursor) ++ qc5 T.saved) ++ qc5 T.away) ++ ((v.map Row.l).take j).flatMap qU)) ∧ App w u none K ∧ L ≤ ap + 1800 * j ∧ Blk u B [pX g, pX q] 42 ∧ ∀ b, K = some b → ¬ b = B) (fun ⟨j, K, L, U⟩ => v.length - j) (0, aR, ap, aS) rfl ?_ ?_
 ·exact ⟨Nat.zero_le _, (by rw [List.take_zero, List.flatMap_nil, List.append_nil]; exact dB), bV, Nat.le_refl _, bT, dA⟩
 intro p fS dD fT dE; obtain ⟨j, K, L, U⟩ := p; obtain ⟨fU, aU, V, fV, ar, aV⟩ := dD; refine yx 1 <| ys <| yc (rL ((j : Nat) : Int) ((v.length : Nat) : Int)) (fun dF => ?_) fun dF => ?_
 ·obtain ⟨I, bW, a1⟩ := qek (rows := v) (k := j) (by omega); obtain ⟨fW, dG⟩ := he.g.2 I.l (by rw [← D.lines]; exact List.mem_map_of_mem a1); have fX := (D.line I a1).2; refine yk <| ys <| q8 <| ysr <| yp 3 [] (.i ((j : Nat) : Int) (v.length) (.l (qeh (Ch.rd (qp V.ch) D.body.rd id) bW) .z)) <| ye <| q7 <| yq 2 <| yo (yC (qdn aU I.b I.n I.cap I.l (Ch.rd (qp V.ch) (D.line I a1).1.rd id) (Nat.lt_of_lt_of_le (D.line I a1).1.lt V.ch.size) (V.apart (D.line I a1).1.lt (fun b e => by cases e)) (D.line I a1).2 dG (by omega)) ?_); rintro _ dH ⟨bX, bY, bZ, rfl, dI, fY, aW⟩; refine ⟨_, rfl, ?_⟩; have dJ := aW.apart ar.lt aV; have dK := V.trans aW; have dL := ar.ch aW.ch (fun h => aV _ h rfl); refine yq 4 <| yE (nB (nS ?_)); refine q7 <| yp 2 [] (.q6 (((j : Nat) : Int) + 1) .z) ?_; have dM : Own dH tU8 1 bX bY bZ (u8s ((((((([] : List Int) ++ qab [T.grid.w, T.grid.h, T.top, T.bot]) ++ qab [((qY [T.wrap, T.origin, T.insert, T.hidden, T.alt, T.draw0, T.draw1, T.shift] : Nat) : Int), ((qY (qfx T.tabs) : Nat) : Int)]) ++ qc5 T.cursor) ++ qc5 T.saved) ++ qc5 T.away) ++ ((v.map Row.l).take (j + 1)).flatMap qU)) := by
   have h := dI; rw [qbK bW]; simp only [qay, qaX, List.flatMap_append, List.flatMap_cons, List.flatMap_nil, List.append_assoc, List.append_nil, Int.toNat_natCast] at h ⊢; exact h
  refine yE (fun a ha => dE (j + 1, bX, bY, bZ) _ ⟨by omega, dM, dK, by omega, dL, dJ⟩ (by show v.length - (j + 1) < v.length - j; omega) a (ha.kp [0, 3, 114, 115, 116, 123, 124, 125]))
 have dN : j = (v.map Row.l).length := by rw [List.length_map]; omega
 rw [dN, List.take_length, D.lines] at aU; refine qo (eS (qg (qd (nB (nS ?_))))); refine q7 <| yp 2 [] (.q6 1 .z) <| yE (nU (yU1 ?_)); refine yx 1 <| ys <| yct <| yk <| ys <| q8 <| ysr <| yp 3 [] (.i 1 (2) (.l (ar.c 1) .z)) <| ye <| ysr <| yp 6 [] (.l (qf (qp V.ch) (E.head.c 2) id) .z) <| ye <| q8 ?_; have dO := he.o.1; rw [← E.lines, List.length_map] at dO; refine qT [0, 3, 114, 115, 116, 123, 124, 125] (f' := [(0, pX t), (3, .slice (K.map at0) L U), (114, .slice (some ⟨B, 0, none⟩) 2 2), (115, iX 2), (116, iX 1), (123, .slice (some ⟨r2, 0, none⟩) A.length bf), (124, iX ((A.length : Nat) : Int)), (125, iX 0)]) <| qz (σ := Nat × Option Nat × Nat × Nat) (fun ⟨m, O, W, a2⟩ => [(0, pX t), (3, .slice (O.map at0) W a2), (114, .slice (some ⟨B, 0, none⟩) 2 2), (115, iX 2), (116, iX 1), (123, .slice (some ⟨r2, 0, none⟩) A.length bf), (124, iX ((A.length : Nat) : Int)), (125, iX ((m : Nat) : Int))]) (fun ⟨m, O, W, a2⟩ u => m ≤ A.length ∧ Own u tU8 1 O W a2 (u8s (((((((([] : List Int) ++ qab [T.grid.w, T.grid.h, T.top, T.bot]) ++ qab [((qY [T.wrap, T.origin, T.insert, T.hidden, T.alt, T.draw0, T.draw1, T.shift] : Nat) : Int), ((qY (qfx T.tabs) : Nat) : Int)]) ++ qc5 T.cursor) ++ qc5 T.saved) ++ qc5 T.away) ++ (T.grid.lines).flatMap qU) ++ ((A.map Row.l).take m).flatMap qU)) ∧ App w u none O ∧ W ≤ L + 1800 * m ∧ Blk u B [pX g, pX q] 42 ∧ ∀ b, O = some b → ¬ b = B) (fun ⟨m, O, W, a2⟩ => A.length - m) (0, K, L, U) rfl ?_ ?_
 ·exact ⟨Nat.zero_le _, (by rw [List.take_zero, List.flatMap_nil, List.append_nil]; exact aU), V, Nat.le_refl _, ar, aV⟩
 intro p fZ dP g0 dQ; obtain ⟨m, O, W, a2⟩ := p; obtain ⟨g3, au, P, g4, aX, av⟩ := dP; refine yx 1 <| ys <| yc (rL ((m : Nat) : Int) ((A.length : Nat) : Int)) (fun dR => ?_) fun dR => ?_
 ·obtain ⟨J, c0, a3⟩ := qek (rows := A) (k := m) (by omega); obtain ⟨g5, dS⟩ := he.o.2 J.l (by rw [← E.lines]; exact List.mem_map_of_mem a3); have g6 := (E.line J a3).2; refine yk <| ys <| q8 <| ysr <| yp 3 [] (.i ((m : Nat) : Int) (A.length) (.l (qeh (Ch.rd (qp P.ch) E.body.rd id) c0) .z)) <| ye <| q7 <| yq 2 <| yo (yC (qdn au J.b J.n J.cap J.l (Ch.rd (qp P.ch) (E.line J a3).1.rd id) (Nat.lt_of_lt_of_le (E.line J a3).1.lt P.ch.size) (P.apart (E.line J a3).1.lt (fun b e => by cases e)) (E.line J a3).2 dS (by omega)) ?_); rintro _ dT ⟨c1, c2, c3, rfl, dU, g7, aY⟩; refine ⟨_, rfl, ?_⟩; have dV := aY.apart aX.lt av; have dW := P.trans aY; have dX := aX.ch aY.ch (fun h => av _ h rfl); refine yq 4 <| yE (nB (nS ?_)); refine q7 <| yp 2 [] (.q6 (((m : Nat) : Int) + 1) .z) ?_; have dY : Own dT tU8 1 c1 c2 c3 (u8s (((((((([] : List Int) ++ qab [T.grid.w, T.grid.h, T.top, T.bot]) ++ qab [((qY [T.wrap, T.origin, T.insert, T.hidden, T.alt, T.draw0, T.draw1, T.shift] : Nat) : Int), ((qY (qfx T.tabs) : Nat) : Int)]) ++ qc5 T.cursor) ++ qc5 T.saved) ++ qc5 T.away) ++ (T.grid.lines).flatMap qU) ++ ((A.map Row.l).take (m + 1)).flatMap qU)) := by
   have h := dU; rw [qbK c0]; simp only [qay, qaX, List.flatMap_append, List.flatMap_cons, List.flatMap_nil, List.append_assoc, List.append_nil, Int.toNat_natCast] at h ⊢; exact h
  refine yE (fun a ha => dQ (m + 1, c1, c2, c3) _ ⟨by omega, dY, dW, by omega, dX, dV⟩ (by show A.length - (m + 1) < A.length - m; omega) a (ha.kp [0, 3, 114, 115, 116, 123, 124, 125]))
 have dZ : m = (A.map Row.l).length := by rw [List.length_map]; omega
 rw [dZ, List.take_length, E.lines] at au; refine qo (eS (qg (qd (nB (nS ?_))))); refine q7 <| yp 2 [] (.q6 2 .z) <| yE (nU (yU1 ?_)); refine yx 1 <| ys <| ycf <| qo (eS (qg (qd (nS ?_)))); refine ysr <| yp 7 [6] (.l (qf (qp P.ch) (hI.blk.c 97) id) (.p (q := InR .u64 ((bn : Nat) : Int)) (qaO (by omega) (by omega)) .z)) <| yo (yB [.int .u64 ((bn : Nat) : Int)] 61 1 fun g8 aZ e0 g9 b0 b1 => ?_); have c4 := zv (b := aZ) au; have ga : w.heap.size ≤ aZ := by rw [e0]; exact P.ch.size
 have e1 := au.ch b1 iZ; have e2 := P.step b1 iZ; have c5 := aX.ch b1 id; refine yo (yC (qau O W a2 (((((((([] : List Int) ++ qab [T.grid.w, T.grid.h, T.top, T.bot]) ++ qab [((qY [T.wrap, T.origin, T.insert, T.hidden, T.alt, T.draw0, T.draw1, T.shift] : Nat) : Int), ((qY (qfx T.tabs) : Nat) : Int)]) ++ qc5 T.cursor) ++ qc5 T.saved) ++ qc5 T.away) ++ (T.grid.lines).flatMap qU) ++ (T.other.lines).flatMap qU) aZ 1 [((bn : Nat) : Int)] _ e1 (Rd.all b0) rfl (by intro x hx; simp only [List.mem_cons, List.not_mem_nil, or_false] at hx; subst hx; constructor <;> omega) b0.lt c4 (by omega)) ?_); rintro _ gb ⟨c6, b2, c7, rfl, e3, gc, aw⟩; refine ⟨_, rfl, ?_⟩; have e4 := aw.apart c5.lt av; have gd := aw.apart b0.lt c4; have c8 := e2.trans aw; have e5 := c5.ch aw.ch (fun h => av _ h rfl); refine yz 10 <| ys <| ysr <| yp 6 [] (.l (qf (qp c8.ch) (hI.blk.c 97) id) .z) <| ye <| q8 ?_; have e6 := he.k.1; rw [← a7, List.length_map] at e6; have gf := G.len; refine qT [0, 3, 146, 147, 148] (f' := [(0, pX t), (3, .slice (c6.map at0) b2 c7), (146, .slice ba bn bc), (147, iX ((bn : Nat) : Int)), (148, iX 0)]) <| qz (σ := Nat × Option Nat × Nat × Nat) (fun ⟨d, Q, X, a4⟩ => [(0, pX t), (3, .slice (Q.map at0) X a4), (146, .slice ba bn bc), (147, iX ((bn : Nat) : Int)), (148, iX ((d : Nat) : Int))]) (fun ⟨d, Q, X, a4⟩ u => d ≤ bn ∧ Own u tU8 1 Q X a4 (u8s (((((((((([] : List Int) ++ qab [T.grid.w, T.grid.h, T.top, T.bot]) ++ qab [((qY [T.wrap, T.origin, T.insert, T.hidden, T.alt, T.draw0, T.draw1, T.shift] : Nat) : Int), ((qY (qfx T.tabs) : Nat) : Int)]) ++ qc5 T.cursor) ++ qc5 T.saved) ++ qc5 T.away) ++ (T.grid.lines).flatMap qU) ++ (T.other.lines).flatMap qU) ++ qab [((bn : Nat) : Int)]) ++ ((a6.map Row.l).take d).flatMap (fun l => qaA l.length ++ qU l))) ∧ App w u none Q ∧ X ≤ b2 + 1810 * d ∧ Blk u B [pX g, pX q] 42 ∧ ∀ b, Q = some b → ¬ b = B) (fun ⟨d, Q, X, a4⟩ => bn - d) (0, c6, b2, c7) rfl ?_ ?_
 ·exact ⟨Nat.zero_le _, (by rw [List.take_zero, List.flatMap_nil, List.append_nil]; exact e3), c8, Nat.le_refl _, e5, e4⟩
 intro p gg e7 gh e8; obtain ⟨d, Q, X, a4⟩ := p; obtain ⟨gi, ax, ay, gj, c9, az⟩ := e7; refine yx 1 <| ys <| yc (rL ((d : Nat) : Int) ((bn : Nat) : Int)) (fun e9 => ?_) fun e9 => ?_
 ·obtain ⟨bb, bo, rfl⟩ := qma hI.bz G (by omega); obtain ⟨C, ca, a5⟩ := qek (rows := a6) (k := d) (by omega); obtain ⟨gk, ea⟩ := he.k.2 C.l (by rw [← a7]; exact List.mem_map_of_mem a5); have eb := (G.line C a5).2; refine yk <| ys <| q8 <| ysr <| yp 3 [] (.i ((d : Nat) : Int) (bn) (.l (qeh (Ch.rd (qp ay.ch) G.rd id) ca) .z)) <| ye <| q7 <| yp 4 [3] (.p (q := InR .u64 ((C.n : Nat) : Int)) (qaO (by omega) (by omega)) .z) <| yo (yB [.int .u64 ((C.n : Nat) : Int)] 61 1 fun gl b3 ec gm aA b4 => ?_); have b5 := zv (b := b3) ax; have gn : w.heap.size ≤ b3 := by rw [ec]; exact ay.ch.size
  have cb := c9.ch b4 id; have ed := ax.ch b4 iZ; have ee := ay.step b4 iZ; refine yo (yC (qau Q X a4 (((((((((([] : List Int) ++ qab [T.grid.w, T.grid.h, T.top, T.bot]) ++ qab [((qY [T.wrap, T.origin, T.insert, T.hidden, T.alt, T.draw0, T.draw1, T.shift] : Nat) : Int), ((qY (qfx T.tabs) : Nat) : Int)]) ++ qc5 T.cursor) ++ qc5 T.saved) ++ qc5 T.away) ++ (T.grid.lines).flatMap qU) ++ (T.other.lines).flatMap qU) ++ qab [((bn : Nat) : Int)]) ++ ((a6.map Row.l).take d).flatMap (fun l => qaA l.length ++ qU l)) b3 1 [((C.n : Nat) : Int)] _ ed (Rd.all aA) rfl (by intro x hx; simp only [List.mem_cons, List.not_mem_nil, or_false] at hx; subst hx; constructor <;> omega) aA.lt b5 (by omega)) ?_); rintro _ gp ⟨gq, gr, gs, rfl, ef, gu, ae⟩; refine ⟨_, rfl, ?_⟩; have cc := ae.apart cb.lt az; have eg := ae.apart aA.lt b5; have aB := ee.trans ae; have cd := cb.ch ae.ch (fun h => az _ h rfl); have eh := aA.ch ae.ch (fun h => b5 _ h rfl); refine yq 7 <| yo (yC (qdn ef C.b C.n C.cap C.l (Ch.rd (qp aB.ch) (G.line C a5).1.rd id) (Nat.lt_of_lt_of_le (G.line C a5).1.lt aB.ch.size) (aB.apart (G.line C a5).1.lt (fun b e => by cases e)) (G.line C a5).2 ea (by omega)) ?_); rintro _ ei ⟨ce, cf, cg, rfl, ej, gv, aC⟩; refine ⟨_, rfl, ?_⟩; have ek := aC.apart cd.lt cc; have gw := aC.apart eh.lt eg; have el := aB.trans aC; have em := cd.ch aC.ch (fun h => cc _ h rfl); refine yq 9 <| yE (nB (nS ?_)); refine q7 <| yp 2 [] (.q6 (((d : Nat) : Int) + 1) .z) ?_; have en : Own ei tU8 1 ce cf cg (u8s (((((((((([] : List Int) ++ qab [T.grid.w, T.grid.h, T.top, T.bot]) ++ qab [((qY [T.wrap, T.origin, T.insert, T.hidden, T.alt, T.draw0, T.draw1, T.shift] : Nat) : Int), ((qY (qfx T.tabs) : Nat) : Int)]) ++ qc5 T.cursor) ++ qc5 T.saved) ++ qc5 T.away) ++ (T.grid.lines).flatMap qU) ++ (T.other.lines).flatMap qU) ++ qab [((bn : Nat) : Int)]) ++ ((a6.map Row.l).take (d + 1)).flatMap (fun l => qaA l.length ++ qU l))) := by
   have h := ej; rw [qbK ca]; simp only [qay, qaX, List.flatMap_append, List.flatMap_cons, List.flatMap_nil, List.append_assoc, List.append_nil, Int.toNat_natCast] at h ⊢; rw [eb]; exact h
  refine yE (fun a ha => e8 (d + 1, ce, cf, cg) _ ⟨by omega, en, el, by omega, em, ek⟩ (by show bn - (d + 1) < bn - d; omega) a (ha.kp [0, 3, 146, 147, 148]))
 have eo : d = (a6.map Row.l).length := by rw [List.length_map]; omega
 rw [eo, List.take_length, a7] at ax; refine qo (eS (qg (qd (nS ?_)))); refine ys <| qG (fun b => w.heap.size ≤ b) [15] (by kernel_rfl) (fun gx gy b6 => ?_); have ci := c9.ch b6 id; have ep := ax.ch b6 iZ; have af := ay.step b6 iZ; refine ydC [0, 1, 2, 3, 4, 6, 7, 8, 9, 11, 12, 13, 14] [] (fun u hu => (.l (qf hu (qf (qp af.ch) (hI.blk.c 96) id) (fun h => by have := hI.blk.lt; omega)) (.l (qf hu (qf (qp af.ch) (hI.blk.c 107) id) (fun h => by have := hI.blk.lt; omega)) (.a (qB hu (qB (qp af.ch) (hI.blk.cs 98 9) id) (fun h => by have := hI.blk.lt; omega)) .z)))) <| yH 5 (yC (qaK ep T.title (by omega)) ?_); rintro _ gz ⟨gA, gB, gC, rfl, er, gD, aD⟩; refine ⟨_, rfl, ?_⟩; have cj := aD.apart ci.lt az; have ck := af.trans aD; have cl := ci.ch aD.ch (fun h => az _ h rfl); refine qj aD.ch ((fun i _ h => af.new i h)) <| yH 10 (yC (qaK er T.reply (by omega)) ?_); rintro _ gE ⟨gF, gG, gH, rfl, es, gI, aE⟩; refine ⟨_, rfl, ?_⟩; have et := aE.apart cl.lt cj; have b7 := ck.trans aE; have eu := cl.ch aE.ch (fun h => cj _ h rfl); refine qj aE.ch ((fun i _ h => ck.new i h)) <| yK 15 (yC (qkx es T.parser he.p pa pn pc (hI.ps.1.ch (qp b7.ch) iZ) hI.ps.2.1 (by rcases hI.pz with ⟨po, cm⟩; cases po with | none => exact .inl (by have h := hI.ps.1.1 (by rw [cm]; rfl); have Y := hI.ps.2.1; rw [List.map_eq_nil_iff] at h; rw [h] at Y; exact Y.symm) | some b => exact .inr ⟨b, 0, by rw [cm]; rfl⟩) (fun x hx b f hb e => by have h1 := b7.new x hx; have Y := hI.ps.2.2.2 _ hb; have h3 := hI.lt b (hI.inF.2.2.2.2 b Y); omega) (by omega)) ?_)
 rintro _ gK ⟨ev, ew, ex, rfl, ey, gL, cn⟩; refine ⟨_, rfl, ?_⟩; have gM := cn.apart eu.lt et; have co := b7.trans cn; refine q9 <| yd [16] [] .z <| yDe (nS ?_); refine qe (yR1 (.slice (ev.map at0) ew ex) ?_); refine ⟨_, _, _, rfl, ?_, by omega, co.new, qp co.ch⟩; have h := ey; unfold qeg; unfold qgV; rw [← tabL_f]; simp only [qay, qaX, List.append_assoc, List.append_nil, List.nil_append, Int.toNat_natCast] at h ⊢; have cp := congrArg List.length a7; rw [List.length_map, G.len] at cp; rw [← cp]; exact h
theorem u8_lit {w : World} {b : Nat} {l : List Int} (h : Rd w (some ⟨b, 0, none⟩) (u8s l)) (k : Nat) (hk : k < l.length) : w.cell? ⟨b, k, none⟩ = some (uX (l.getD k 0)) := by
 have := qiI h hk; rwa [Int.toNat_natCast, Nat.mul_one, Nat.zero_add] at this
def fitE : List Int := qeg (qa3 zeroT 2 1)
theorem fitE_ok : 5 ≤ fitE.length ∧ fitE.getD 0 0 = 2 ∧ fitE.getD 3 0 = 1 ∧ fitE.length ≤ 1000 := by decide +kernel
def fitB : Bool := match decT (some fitE) with
  | some T => decide (T.grid.w = 2) && decide (T.grid.lines.length = 1)
  | none => false
theorem fitB_ok : fitB = true := by decide +kernel
theorem fit_dec : ∃ T, decT (some fitE) = some T ∧ T.grid.w = 2 ∧ T.grid.lines.length = 1 := by
 have h := fitB_ok; unfold fitB at h; cases e : decT (some fitE) with
 | none => rw [e] at h; cases h
 | some T =>
  rw [e] at h; simp only [Bool.and_eq_true, decide_eq_true_eq] at h; exact ⟨T, rfl, h.1, h.2⟩
theorem curB0 : CurB cur0 := ⟨by decide, by decide, by decide⟩
theorem fit_enc : EncOk (qa3 zeroT 2 1) := by
 have hl : ∀ l ∈ (qhb 2 1).lines, l.length ≤ 60 ∧ ∀ c ∈ l, cOk c := by
  have e : (qhb 2 1).lines = [[qx qca, qx qca]] := by kernel_rfl
  rw [e]; intro l hl; rw [List.mem_singleton.1 hl]; refine ⟨by decide, fun c hc => ?_⟩; have : c = qx qca := by simpa using hc
  rw [this]; exact ⟨by decide, by decide, by decide⟩
 exact ⟨by decide, by decide, by decide, curB0, curB0, curB0, ⟨by decide, hl⟩, ⟨by decide, hl⟩, ⟨by decide, fun l hl => by cases hl⟩, by decide, by decide, ⟨by decide, by decide, by decide, (fun x hx => by cases hx), by decide, by decide, (fun x hx => by cases hx), by decide⟩⟩
theorem qdV {l : List Int} {w : World} {o : Option Nat} {n cap : Nat} (h : Own w tU8 1 o n cap (u8s l)) : l.length = n := by
 have := h.1; rwa [u8s, List.length_map, Nat.mul_one] at this
theorem qmu : qd7 fitE := by
 have : fitE.all (fun x => decide (0 ≤ x) && decide (x ≤ 255)) = true := by decide +kernel
 intro x hx; have := List.all_eq_true.1 this x hx; simpa using this
set_option maxHeartbeats 4000000 in
theorem qmv (w : World) (hT : LT w) (h7 : gTop ≤ w.heap.size) : Calls Tryz.prog 9 [].toArray w fun e w' => e = .returned (.bool true) ∧ Ch (fun _ => False) w w' := by
 refine yA Tryz.func9 rfl <| yx 1 <| ysr <| yo (yC (qgO 2 1 _ (qy (zr w) hT (fun b h => h.elim)) (Nat.le_trans h7 (zs (zr w)))) ?_); rintro _ f ⟨t, rfl, A, D⟩; refine ⟨_, rfl, ?_⟩; have E : Ch (fun _ => False) w f := zt (zr w) D iZ; have F := A; obtain ⟨ga, qa, R, S, T, U, V, W, X, Y, Z, a0, m⟩ := F; obtain ⟨a1, a2, a3, a4⟩ := m.g1; obtain ⟨a5, a6, a7, a8⟩ := m.g2; refine yz 2 <| ys <| ysr <| yp 16 [] (.l (qf (zr f) (m.blk.c 0) id) (.l (qf (zr f) (m.blk.c 1) id) .z)) <| ye <| ycf <| yk <| ysr <| yq 1 <| yo (yC (qga (TermAt.ch A (zr f) iZ) fit_enc) ?_); rintro _ d ⟨a9, j, B, rfl, g, aa, ab, C⟩; refine ⟨_, rfl, ?_⟩; have p : Ch (fun _ => False) w d := zt E C iZ; have G : Ch (fun _ => False) f d := zt (zr f) C iZ; have H : fitE.length = j := qdV g; obtain ⟨ob, rfl⟩ := qdS g (by have := fitE_ok.1; omega); have I : j ≤ B := g.2.1; obtain ⟨ac, ad, ae, af⟩ := fitE_ok; refine yz 3 <| ys <| ysr <| yq 4 <| yw [27] (rL ((j : Nat) : Int) 5) (fun q => ?_) fun q => ?_
 ·have ag := q; exfalso; omega
 have ah := q; refine yp 10 [] (.i 0 (j) (.l (o := 0) (qf (zr d) (u8_lit (l := fitE) (Own.rd g) 0 (by omega)) id) .z)) <| yw [33] (rI (fitE.getD 0 0) 2) (fun r => ?_) fun r => ?_
 ·have ai := r; exfalso; omega
 have aj := r; refine yp 15 [] (.i 3 (j) (.l (o := 3) (qf (zr d) (u8_lit (l := fitE) (Own.rd g) 3 (by omega)) id) .z)) <| ye <| yc (rI (fitE.getD 3 0) 1) (fun s => ?_) fun s => ?_
 ·have ak := s; exfalso; omega
 have al := s; refine yk <| ysr <| yq 1 ?_; obtain ⟨TD, J, am, an⟩ := fit_dec; refine yo (yC (qkw ob (some ⟨ob, 0, none⟩) j B fitE (some TD) _ (qy p hT (fun b h => h.elim)) (Nat.le_trans h7 (zs p)) (Ch.rd (zr d) (Own.rd g) id) H I (.inr ⟨0, rfl⟩) qmu (by omega) (Nat.lt_of_lt_of_le g.lt (zs (zr d))) J) ?_); rintro _ a ⟨vd, xd, rfl, v, K⟩; refine ⟨_, rfl, ?_⟩; have L : Ch (fun _ => False) w a := zt p v iZ; have ao : Ch (fun _ => False) f a := zt G v iZ; have ap : Ch (fun _ => False) d a := zt (zr d) v iZ; obtain ⟨u, TU, M, rfl, rfl, N⟩ := K.resolve_left (fun h => by cases h.1); obtain rfl := zi M; have O := N; obtain ⟨gb, qb, aq, ar, au, av, aw, ax, ay, az, aA, aB, k⟩ := O; obtain ⟨aC, aD, P, n⟩ := k.g1; obtain ⟨aE, aF, aG, aH⟩ := k.g2; refine yz 7 <| ysr <| yp 31 [] (.l (qf (zr a) (k.blk.c 0) id) (.l (qf (zr a) (k.blk.c 1) id) (.l (qf (zr a) (k.blk.c 0) id) (.l (qf (zr a) (n.head.c 0) id) .z)))) <| yw [74] (rE TD.grid.w 2) (fun x => ?_) fun x => ?_
 ·have aI := x; refine yp 42 [] (.l (qf (zr a) (k.blk.c 0) id) (.l (qf (zr a) (n.head.c 2) id) .z)) <| ye <| qe (yR1 (.bool ((((P.length : Nat) : Int) : Int) == 1)) ?_); have y := congrArg List.length n.lines; rw [List.length_map] at y; refine ⟨zc ?_, L⟩
  first | rfl | (rw [beq_iff_eq]; omega)
 have aJ := x; exfalso; first | omega | (have y := n.lines; have Q := congrArg List.length y; rw [List.length_map] at Q; omega)
end Go.Proofs.YtclnfbmmaofpjaaGreatDoor.X

namespace Go.Proofs.YtclnfbmmaofpjaaGreatDoor.X
open Go Go.RowKit Go.Proofs.YtclnfbmmaofpjaaGreatDoor
set_option maxHeartbeats 4000000 in
theorem do_at {w : World} {t : Nat} {T : TS} {F : Nat → Prop} (hA : TermAt w t T F) (hT : LT w) (hf : Fine T) (x : Stp) (hx : x.text.size ≤ 1000000) : Calls Tryz.prog 17 [pX t, .agg #[.string x.text, iX x.w, iX x.h]].toArray w fun e w' => e = .returned (.tuple #[]) ∧ TermAt w' t (doT T x) (more F w w') ∧ Ch F w w' := by
 obtain ⟨⟨W, H, hL⟩, hp⟩ := hf; refine yA Tryz.func17 rfl <| ysr <| yo (yN [.string x.text, iX x.w, iX x.h] 37 fun m n j o a k => ?_); have p := zn j (zm w); have f := zu (zm w) k iZ; refine ye <| ys <| ysr <| yp 4 [] (.l (a.c 1) .z) <| yw [7] (rE x.w 0) (fun g => ?_) fun g => ?_
 ·refine yp 8 [] (.l (a.c 2) .z) <| ye <| yc (rE x.h 0) (fun i => ?_) fun i => ?_
  ·refine ysr <| yp 3 [] (.l (a.c 0) .z) ?_; have hq := Up.ch f; have b := hA.ch hq iZ; have d := qy hq hT (fun _ h => h.elim); refine yo (yQ (write_at b d hL hp x.text hx) ?_); rintro q ⟨hB, hc⟩; refine ye <| qe (rS (yR0 ?_)); exact ⟨rfl, TermAt.eq' (hB.mono (qs hq.size) (hA.moreOk (Nat.le_trans hq.size hc.size))) (if_pos ⟨g, i⟩), (hq.mono eZ).trans hc iZ⟩
  refine yk <| q7 <| yp 5 [] (.l (a.c 1) (.l (a.c 2) .z)) ?_; have hq := Up.ch f; have b := hA.ch hq iZ; have d := qy hq hT (fun _ h => h.elim); refine yo (yQ (qhQ b d hL x.w x.h) ?_); rintro r ⟨hB, hc⟩; refine yE (qO ?_); exact ⟨rfl, TermAt.eq' (hB.mono (qs hq.size) (hA.moreOk (Nat.le_trans hq.size hc.size))) (if_neg (fun h => i h.2)), (hq.mono eZ).trans hc iZ⟩
 refine yz 8 <| ycf <| yk <| q7 <| yp 5 [] (.l (a.c 1) (.l (a.c 2) .z)) ?_; have hq := Up.ch f; have b := hA.ch hq iZ; have d := qy hq hT (fun _ h => h.elim); refine yo (yQ (qhQ b d hL x.w x.h) ?_); rintro s ⟨hB, hc⟩; refine yE (qO ?_); exact ⟨rfl, TermAt.eq' (hB.mono (qs hq.size) (hA.moreOk (Nat.le_trans hq.size hc.size))) (if_neg (fun h => g h.1)), (hq.mono eZ).trans hc iZ⟩
theorem Sys.do {w0 w : World} {bs : List (Nat × List Value × TypeId)} {ts : List (Nat × TS)} (h : Sys w0 w bs ts) {i t : Nat} {T : TS} (hi : ts[i]? = some (t, T)) (x : Stp) (hx : x.text.size ≤ 1000000) : Calls Tryz.prog 17 [pX t, .agg #[.string x.text, iX x.w, iX x.h]].toArray w fun e w' => e = .returned (.tuple #[]) ∧ Sys w0 w' bs (ts.set i (t, doT T x)) :=
  h.step hi (fun F hA hl hf => do_at hA hl hf x hx) (fun hf => qlJ hf x)
theorem qky {st : List Stp} {k : Nat} (h : ∀ i : Nat, i < k → (gs st i).text.size ≤ 600) (hb : (gs st k).text.size ≤ 600) : ∀ i : Nat, i < k + 1 → (gs st i).text.size ≤ 600 := fun i hi => by
  rcases Nat.lt_or_ge i k with h' | h'
  · exact h i h'
  · obtain rfl : i = k := by omega
    exact hb
set_option maxHeartbeats 4000000 in
theorem qkz (sb so sc : Nat) (st : List Stp) (w : World) (hT : LT w) (h7 : gTop ≤ w.heap.size) (hst : Rd w (some ⟨sb, so, none⟩) (flatS st)) : Calls Tryz.prog 10 [.slice (some ⟨sb, so, none⟩) st.length sc].toArray w fun e w' => e = .returned (.bool (qfX st)) ∧ Ch (fun _ => False) w w' := by
 have hS := Sys.start hT h7; refine yA Tryz.func10 rfl <| yx 1 <| ys <| yx 3 <| yc (rL 40 ((st.length : Nat) : Int)) (fun f => ?_) fun f => ?_
 ·refine yx 1 <| qe (rS (yR1 (.bool false) ?_)); refine ⟨zc ?_, hS.ch⟩; exact (Bool.eq_false_iff.2 fun h => by have := (shortB_iff.1 h).1; omega).symm
 refine yk <| ys <| yx 3 <| q8 <| qT [8, 9, 10] (f' := [(8, .slice (some ⟨sb, so, none⟩) st.length sc), (9, iX ((st.length : Nat) : Int)), (10, iX 0)]) <| qz (σ := Nat) (fun k => [(8, .slice (some ⟨sb, so, none⟩) st.length sc), (9, iX ((st.length : Nat) : Int)), (10, iX ((k : Nat) : Int))]) (fun k wv => (k : Int) ≤ ((st.length : Nat) : Int) ∧ Sys w wv [] [] ∧ ∀ i : Nat, i < k → (gs st i).text.size ≤ 600) (fun k => (((st.length : Nat) : Int)).toNat - k) 0 rfl ?_ ?_
 ·exact ⟨by omega, hS, fun i hi => absurd hi (Nat.not_lt_zero i)⟩
 intro k p q A r; obtain ⟨B, b, j⟩ := q; replace b : Sys w p [] [] := b; refine yx 1 <| ys <| yc (rL ((k : Nat) : Int) ((st.length : Nat) : Int)) (fun f => ?_) fun f => ?_
 ·refine yk <| ys <| q8 <| ysr <| yp 2 [] (.i ((k : Nat) : Int) (st.length) (.m (s_text (k := k) (Ch.rd b.ch hst id) (by omega)) (.m (s_w (k := k) (Ch.rd b.ch hst id) (by omega)) (.m (s_h (k := k) (Ch.rd b.ch hst id) (by omega)) (.e .z))))) <| yo (yN [oX, iX 0, iX 0] 37 fun s d t C u v => ?_); have n : Sys w s [(d, [oX, iX 0, iX 0], 37)] [] := b.box v u (Nat.le_of_eq t.symm); refine yo (yS (n.blk 0 (d, [oX, iX 0, iX 0], 37) rfl) fun o x y => ?_); have g : Sys w o [(d, [.string (gs st k).text, iX (gs st k).w, iX (gs st k).h], 37)] [] := n.set 0 rfl y (Blk.to x (by kernel_rfl)); refine ye <| ysr <| yp 4 [] (.l ((g.blk 0 (d, [.string (gs st k).text, iX (gs st k).w, iX (gs st k).h], 37) rfl).c 0) .z) <| ye <| yc (rL 600 (((gs st k).text).size : Int)) (fun f => ?_) fun f => ?_
  ·refine yx 1 <| qe (rB (rS (qE (rB (rS (yR1 (.bool false) ?_)))))); refine ⟨zc ?_, g.ch⟩; exact (Bool.eq_false_iff.2 fun h => by have := (shortB_iff.1 h).2 k (by omega); omega).symm
  refine qr (nB (nS ?_)); refine q7 <| yp 2 [] (.q6 (((k : Nat) : Int) + 1) .z) <| yE (fun a ha => r (k + 1) _ ⟨by omega, (Sys.pre (bs' := [(d, [.string (gs st k).text, iX (gs st k).w, iX (gs st k).h], 37)]) (show Sys w o (_ ++ [(d, [.string (gs st k).text, iX (gs st k).w, iX (gs st k).h], 37)]) _ from g)), qky j (by omega)⟩ (by omega) a (ha.kp [8, 9, 10]))
 refine qo (eS (qg (qd (nS ?_)))); refine yx 1 <| qe (yR1 (.bool true) ?_); refine ⟨zc ?_, b.ch⟩; exact (shortB_iff.2 ⟨by omega, fun i hi => j i (by omega)⟩).symm
set_option maxHeartbeats 4000000 in
theorem qmw (a : Option Addr) (sc : Nat) (w : World) (hT : LT w) (h7 : gTop ≤ w.heap.size) : Calls Tryz.prog 10 [.slice a 0 sc].toArray w fun e w' => e = .returned (.bool (qfX [])) ∧ Ch (fun _ => False) w w' := by
 have hS := Sys.start hT h7; refine yA Tryz.func10 rfl <| yx 1 <| ys <| yx 3 <| ycf <| yk <| ys <| yx 3 <| q8 <| yU 1 (yU1 ?_); refine yx 1 <| ys <| ycf <| qo (eS (qg (qd (nS ?_)))); refine yx 1 <| qe (yR1 (.bool true) ?_); exact ⟨rfl, hS.ch⟩
theorem qfl (c : Cel) : ∀ (l : List Cel), ∃ n r, c :: l = List.replicate (n + 1) c ++ r ∧ r.head? ≠ some c
 | [] => ⟨0, [], rfl, by simp⟩
 | d :: l => by
  by_cases h : d = c
  ·subst h
   obtain ⟨n, r, e, hr⟩ := qfl d l
   exact ⟨n + 1, r, by rw [List.replicate_succ, List.cons_append, ← e], hr⟩
  ·exact ⟨0, d :: l, rfl, by simp [h]⟩
theorem qjy : zb ByteArray.empty = true := beq_self_eq_true _
theorem qiO {n : Nat} {p : Nat → Bool} (h : ∀ i, i < n → p i = true) : (List.range n).all p = true := List.all_eq_true.2 fun i hi => h i (List.mem_range.1 hi)
theorem qmx {c : Int} (h : lowM c) : qiG c = true := by unfold qiG; simp [h.1, h.2]
theorem qmy {c : Int} (h : wideM c) : qbE c = true := by
 unfold qbE
 rcases h with h | h
 ·rw [qmx h]; rfl
 ·simp [h.1, h.2]
theorem utB_of {u : US} (h : uR u) : utB u = true := by
 obtain ⟨a, b, c, n⟩ := u
 obtain ⟨⟨h1, h2⟩, h3, h4, h5, h6⟩ := h
 dsimp only at h1 h2 h3 h4 h5 h6
 have hn : n = 0 ∨ n = 1 ∨ n = 2 ∨ n = 3 := by omega
 unfold utB
 rcases hn with rfl | rfl | rfl | rfl
 ·rw [h3 (by decide), h4 (by decide), h5 (by decide)]; decide
 ·rw [h4 (by decide), h5 (by decide)] at h6 ⊢
  have := h6.resolve_left (by decide)
  simp [this]
 ·rw [h5 (by decide)] at h6 ⊢
  have := h6.resolve_left (by decide)
  simp [this]
 ·have := h6.resolve_left (by decide)
  simp [this]
theorem qkA {p : PS} (h : PRight p) (hl : p.lim) : qt p = true := by
 have hst := h.st
 have hb : p.state ≠ 0 → qcE p.utf = true := fun e => by rw [h.u e]; decide
 have hm : p.state ≠ 2 → p.state ≠ 3 → p.state ≠ 4 → zb p.marks = true := fun a b c => by rw [h.m a b c]; exact qjy
 have hn : p.state ≠ 3 → p.state ≠ 4 → (p.params.length == 0) = true := fun a b => by rw [h.n a b]; rfl
 have ht : p.state ≤ 4 → zb p.text = true := fun a => by rw [h.t a]; exact qjy
 have hx : qef p.text = true := by
  unfold qef
  rw [qiO fun i hi => decide_eq_true (h.t5 i hi), decide_eq_true hl.t]; rfl
 have hq : qex p.params = true := by
  unfold qex
  rw [decide_eq_true hl.n, Bool.and_true]
  exact List.all_eq_true.2 fun x hx => by have := hl.b x hx; simp [this.1, this.2]
 have hw0 := h.wi
 unfold qt qby
 rw [if_neg (by
  rintro (⟨a, b⟩ | ⟨a, b⟩)
  ·exact b (hw0 a)
  ·rw [hb a] at b; cases b)]
 by_cases s0 : p.state = 0
 ·rw [if_pos s0, utB_of h.u', hm (by omega) (by omega) (by omega), hn (by omega) (by omega), ht (by omega)]; rfl
 rw [if_neg s0]
 by_cases s1 : p.state = 1
 ·rw [if_pos s1, hm (by omega) (by omega) (by omega), hn (by omega) (by omega), ht (by omega)]; rfl
 rw [if_neg s1]
 by_cases s2 : p.state = 2
 ·obtain ⟨m1, m2⟩ := h.m2 s2
  rw [if_pos s2, hn (by omega) (by omega), ht (by omega)]
  unfold qb4
  rw [decide_eq_true m1, decide_eq_true hl.m, qiO fun i hi => qmx (m2 i hi)]; rfl
 rw [if_neg s2]
 by_cases s3 : p.state = 3 ∨ p.state = 4
 ·rw [if_pos s3, hq, ht (by omega)]
  unfold qb4
  rw [decide_eq_true (Nat.zero_le _), decide_eq_true hl.m, qiO fun i hi => qmy (h.m3 s3 i hi)]; rfl
 rw [if_neg s3]
 by_cases s7 : p.state = 7
 ·rw [if_pos s7, if_neg (by have := h.wc s7; omega), hm (by omega) (by omega) (by omega), hn (by omega) (by omega), hx]; rfl
 rw [if_neg s7, if_pos (by omega), hm (by omega) (by omega) (by omega), hn (by omega) (by omega), hx]; rfl
theorem qmz {p : PS} (h : PRight p) (hl : p.lim) : ParsOk p := by
 have hst := h.st
 refine ⟨by omega, ?_, hl.u, ⟨hl.u.len.symm, by rw [hl.u.len]; have := hl.u.n; omega⟩, hl.m, hl.n, hl.b, hl.t, qkA h hl⟩
 by_cases e : p.state = 7
 ·have := h.wc e; omega
 ·have := h.wi e; omega
theorem cOk_of {c : Cel} (h : celO c) : cOk c := by
 obtain ⟨h1, h2⟩ := h
 refine ⟨h1, ?_⟩
 rcases h2 with h2 | h2
 ·omega
 ·unfold qbs at h2
  simp only [Bool.and_eq_true, Bool.or_eq_true, decide_eq_true_eq, bne_iff_ne, Bool.not_eq_true', decide_eq_false_iff_not] at h2
  omega
theorem decOk_of {W H : Int} {T : TS} (h : Okt true W H T) (hp : PRight T.parser) (hl : T.parser.lim) : DecOk T := by
 obtain ⟨⟨hW, hH, ⟨g1, g1'⟩, ⟨g2, g2'⟩, cu, sa, aw, tb, bk, rp⟩, hg, ho, hb, cs, cl, ss, sl, ay, al, ti⟩ := h
 subst g1 g1'
 have hline : ∀ {G : Gr}, okD G → G.w = T.grid.w → ∀ l ∈ G.lines, (l.length : Int) = T.grid.w ∧ qbj l = true ∧ ∀ c ∈ l, cOk c := fun hG e l hl' => by
  have h1 := hG.wid l hl'
  have h2 := hG.ok l hl'
  exact ⟨by rw [h1]; omega, h2.2, fun c hc => cOk_of (h2.1 c hc)⟩
 refine ⟨hW, hH, ⟨g2, g2'⟩, tb, ⟨cu.1, cu.2, cl rfl, cs⟩, ⟨sa.1, sa.2, sl, ss⟩, ⟨aw.1, aw.2, al, ay⟩, ⟨hg.len, hline hg rfl⟩, ⟨by rw [ho.len, g2'], hline ho g2⟩, ⟨bk, fun l hl' => ?_⟩, ti, rp, qmz hp hl⟩
 obtain ⟨h1, h2, h3⟩ := hb l hl'
 exact ⟨List.length_pos_iff.2 h2, h3, h1.2, fun c hc => cOk_of (h1.1 c hc)⟩
theorem qa5 {n : Nat} (h : n < 2 ^ 64) : qd7 (qaA n) := qhY 9 n (Nat.lt_of_lt_of_le h (by decide))
theorem qdW {x : ByteArray} (h : x.size < 2 ^ 64) : qd7 (qde x) := qI (qa5 h) (qf8 x)
theorem qcX {α : Type} {f : α → List Int} : ∀ {l : List α}, (∀ x ∈ l, qd7 (f x)) → qd7 (l.flatMap f)
  | [], _ => fun x hx => by cases hx
  | a :: l, h => by rw [List.flatMap_cons]; exact qI (h a (List.mem_cons_self ..)) (qcX fun x hx => h x (List.mem_cons_of_mem _ hx))
theorem qmA {n : Nat} {c : Cel} (hn : n < 2 ^ 64) (h : cOk c) : qd7 (qbO n c) := by
  obtain ⟨a, b, d⟩ := h; have := qd9 a; exact qI (qa5 hn) (qI (qa5 (by omega)) (qa5 (by omega)))
theorem qdX : ∀ (f : Nat) (l : List Cel), l.length ≤ f → f < 2 ^ 60 → (∀ c ∈ l, cOk c) → qd7 (qU l)
  | _, [], _, _, _ => fun x hx => by cases hx
  | 0, c :: l, hf, _, _ => by simp at hf
  | f + 1, c :: l, hf, hb, hc => by
    obtain ⟨n, l', e, hl'⟩ := qfl c l
    have hlen : (c :: l).length = (n + 1) + l'.length := by rw [e, List.length_append, List.length_replicate]
    rw [e, qcq hl' n]
    exact qI (qmA (by omega) (hc c (List.mem_cons_self ..))) (qdX f l' (by omega) (by omega) fun d hd => hc d (by rw [e]; exact List.mem_append_right _ hd))
theorem qh5 {W H : Int} {c : Cur} (hc : CurOk W H c) (hW : W ≤ 60) (hH : H ≤ 60) : qd7 (qc5 c) := by
  obtain ⟨b, d, e, a⟩ := hc; have := qd9 a; have := qbN (fun i => [c.late].getD i false) 1; exact qI (qa5 (by omega)) (qI (qa5 (by omega)) (qI (qa5 (by unfold qY; cases c.late <;> decide)) (qa5 (by omega))))
theorem qmB {p : PS} (h : ParsOk p) : qd7 (qfw p) := by
  obtain ⟨b, c, d, e, f, g, a, i, j⟩ := h; have := qbx p.utf.pend; refine qI (qa5 (by omega)) (qI (qa5 (by omega)) (qI (qdW (by omega)) (qI (qdW (by omega)) (qI (qa5 (by omega)) (qI (qcX fun x hx => ?_) (qdW (by omega))))))); have := a x hx; exact qa5 (by omega)
theorem byts_enc {T : TS} (h : DecOk T) : qd7 (qeg T) := by
  obtain ⟨dw, dh, ⟨d, e⟩, dt, dc, ds, da, dg, c, dk, f, dr, dp⟩ := h; have g : qY (qet T) < 2 ^ 8 := qbN _ 8; have i := qbN T.tabs 60; have j : (2 : Nat) ^ 60 < 2 ^ 64 := by decide
  refine qI (qa5 (by omega)) (qI (qa5 (by omega)) (qI (qa5 (by omega)) (qI (qa5 (by omega)) (qI (qa5 (by omega)) (qI (qa5 (by omega)) (qI (qh5 dc dw.2 dh.2) (qI (qh5 ds dw.2 dh.2) (qI (qh5 da dw.2 dh.2)
    (qI (qcX fun l hl => ?_) (qI (qcX fun l hl => ?_) (qI (qa5 (by have := dk.1; omega)) (qI (qcX fun l hl => ?_) (qI (qdW (by omega)) (qI (qdW (by omega)) (qmB dp)))))))))))))))
  · obtain ⟨b, _, a⟩ := dg.2 l hl
    exact qdX 1000 l (by omega) (by omega) a
  · obtain ⟨b, _, a⟩ := c.2 l hl
    exact qdX 1000 l (by omega) (by omega) a
  · obtain ⟨k, b, _, a⟩ := dk.2 l hl
    exact qI (qa5 (by omega)) (qdX 1000 l (by omega) (by omega) a)
theorem qjz : ∀ (f n : Nat), (qg1 f n).length ≤ f + 1
  | 0, n => by simp [qg1]
  | f + 1, n => by
    rw [qg1]
    split
    · simp
    · have := qjz f (n / 128)
      rw [List.length_cons]; omega
theorem qar (n : Nat) : (qaA n).length ≤ 10 := qjz 9 n
theorem qfm (x : ByteArray) : (qde x).length ≤ 10 + x.size := by
  unfold qde; rw [List.length_append, qbX]; have := qar x.size; omega
theorem qeO {α : Type} {f : α → List Int} {c : Nat} : ∀ {l : List α}, (∀ x ∈ l, (f x).length ≤ c) → (l.flatMap f).length ≤ c * l.length
  | [], _ => by simp
  | a :: l, h => by
    rw [List.flatMap_cons, List.length_append, List.length_cons, Nat.mul_succ]
    have h1 := h a (List.mem_cons_self ..)
    have h2 := qeO (f := f) (c := c) fun x hx => h x (List.mem_cons_of_mem a hx)
    omega
theorem len_cell (n : Nat) (c : Cel) : (qbO n c).length ≤ 30 := by
  unfold qbO; rw [List.length_append, List.length_append]; have a := qar n; have b := qar c.rune.toNat; have d := qar (qc4 c.sty); omega
theorem qh6 : ∀ (f : Nat) (l : List Cel), l.length ≤ f → (qU l).length ≤ 30 * l.length
  | _, [], _ => by simp [qU, qdl]
  | 0, c :: l, hf => by simp at hf
  | f + 1, c :: l, hf => by
    obtain ⟨n, l', e, hl'⟩ := qfl c l
    have hlen : (c :: l).length = (n + 1) + l'.length := by rw [e, List.length_append, List.length_replicate]
    rw [e, qcq hl' n, List.length_append, ← e, hlen]
    have a := len_cell (n + 1) c
    have b := qh6 f l' (by omega)
    omega
theorem qiP (c : Cur) : (qc5 c).length ≤ 40 := by
  unfold qc5; simp only [List.length_append]; have a := qar c.x.toNat; have b := qar c.y.toNat; have d := qar (qY [c.late]); have e := qar (qc4 c.sty); omega
theorem qif {W : Int} {L : List (List Cel)} (hW : W ≤ 60) (h : ∀ l ∈ L, (l.length : Int) = W ∧ qbj l = true ∧ ∀ c ∈ l, cOk c) : (L.flatMap qU).length ≤ 1800 * L.length := qeO fun l hl => by
  have h1 := (h l hl).1
  have h2 := qh6 l.length l (Nat.le_refl _)
  omega
theorem len_pars {p : PS} (h : ParsOk p) : (qfw p).length ≤ 1000 := by
  obtain ⟨c, d, i, f, j, k, g, l, m⟩ := h; have a := qfm (qm p.utf.pend); have b : (p.params.flatMap fun n => qaA n.toNat).length ≤ 10 * p.params.length := qeO fun n _ => qar n.toNat; rw [qbx] at a; have o := f.2; have e := Nat.add_le_add (qar p.state.toNat) (Nat.add_le_add (qar p.within.toNat) (Nat.add_le_add a (Nat.add_le_add (qfm p.marks) (Nat.add_le_add (qar p.params.length) (Nat.add_le_add b (qfm p.text)))))); clear a b; unfold qfw; rw [List.length_append, List.length_append, List.length_append, List.length_append, List.length_append, List.length_append]; refine Nat.le_trans e ?_; clear e c d g; omega
theorem len_enc {T : TS} (h : DecOk T) : (qeg T).length ≤ 300000 := by
  obtain ⟨dw, dh, ⟨d, f⟩, dt, dc, ds, da, dg, a, dk, c, dr, dp⟩ := h; have b : (qgV T.back).length ≤ 1810 * T.back.length := by
    unfold qgV; refine qeO fun l hl => ?_; have g := (dk.2 l hl).2.1; rw [List.length_append]; refine Nat.le_trans (Nat.add_le_add (qar l.length) (qh6 l.length l (Nat.le_refl _))) ?_; omega
  have e := Nat.add_le_add (qar T.grid.w.toNat) (Nat.add_le_add (qar T.grid.h.toNat) (Nat.add_le_add (qar T.top.toNat) (Nat.add_le_add (qar T.bot.toNat) (Nat.add_le_add (qar (qY (qet T))) (Nat.add_le_add (qar (qaB T.tabs 60)) (Nat.add_le_add (qiP T.cursor) (Nat.add_le_add (qiP T.saved) (Nat.add_le_add (qiP T.away)
    (Nat.add_le_add (qif dw.2 dg.2) (Nat.add_le_add (qif dw.2 a.2) (Nat.add_le_add (qar T.back.length) (Nat.add_le_add b (Nat.add_le_add (qfm T.title) (Nat.add_le_add (qfm T.reply) (len_pars dp)))))))))))))))
  clear b; have i : T.grid.lines.length ≤ 60 := by have := dg.1; omega
  have j : T.other.lines.length ≤ 60 := by have := a.1; omega
  have k : T.back.length ≤ 20 := dk.1; have m : T.title.size ≤ 40 := c; have n : T.reply.size ≤ 400 := dr; unfold qeg; rw [List.length_append, List.length_append, List.length_append, List.length_append, List.length_append, List.length_append, List.length_append, List.length_append, List.length_append, List.length_append, List.length_append, List.length_append, List.length_append, List.length_append, List.length_append]; refine Nat.le_trans e ?_; clear e; omega
theorem okN (p1 p2 : Int) (l : List Stp) : ∀ k, (∃ W H, Okt true W H (doN (qa3 zeroT p1 p2) l k)) ∧ PRight (doN (qa3 zeroT p1 p2) l k).parser ∧ Fine (doN (qa3 zeroT p1 p2) l k)
  | 0 => ⟨⟨_, _, qjm zeroT p1 p2 (by decide)⟩, qdP (.inl rfl), qfV p1 p2⟩
  | k + 1 => by
    obtain ⟨⟨W, H, h1⟩, h2, h3⟩ := okN p1 p2 l k
    exact ⟨ok_do h1 h3.2 _, pr_do h2 h3.2 _, qlJ h3 _⟩
theorem decOkN (p1 p2 : Int) (l : List Stp) (k : Nat) : DecOk (doN (qa3 zeroT p1 p2) l k) := by
  obtain ⟨⟨W, H, a⟩, b, c⟩ := okN p1 p2 l k; exact decOk_of a b c.2
theorem encI_ne (T : TS) : 0 < (qeg T).length := by
  unfold qeg; rw [List.length_append]; have := List.length_pos_iff.2 (putF_ne 9 T.grid.w.toNat); show 0 < (qg1 9 T.grid.w.toNat).length + _; omega
set_option maxHeartbeats 4000000 in
theorem qmC (p1 p2 : Int) (sb so sc : Nat) (st : List Stp) (w : World) (hT : LT w) (h7 : gTop ≤ w.heap.size) (hst : Rd w (some ⟨sb, so, none⟩) (flatS st)) (hsh : st.length ≤ 80 ∧ ∀ k, k < st.length → (gs st k).text.size ≤ 600) : Calls Tryz.prog 11 [.agg #[iX p1, iX p2], .slice (some ⟨sb, so, none⟩) st.length sc].toArray w fun e w' => ∃ t, e = .returned (pX t) ∧ Sys w w' [] [(t, doN (qa3 zeroT (p1) (p2)) st st.length)] := by
 have hS := Sys.start hT h7; refine yA Tryz.func11 rfl <| ysr <| yo (yN [iX p1, iX p2] 22 fun s d u L j v => ?_); refine yz 2 <| ysr <| yp 4 [] (.i 0 (2) (.l (j.c 0) (.i 1 (2) (.l (j.c 1) .z)))) ?_; have x : Sys w s [(d, [iX p1, iX p2], 22)] [] := hS.box v j (Nat.le_of_eq u.symm); refine yo (yC (x.new (p1) (p2)) ?_); rintro _ y ⟨b, rfl, n, M⟩; refine ⟨_, rfl, ?_⟩; replace n : Sys w y [(d, [iX p1, iX p2], 22)] [(b, (qa3 zeroT (p1) (p2)))] := n; refine yz 6 <| ys <| yx 3 <| q8 <| qT [5, 13, 14, 15] (f' := [(5, pX b), (13, .slice (some ⟨sb, so, none⟩) st.length sc), (14, iX ((st.length : Nat) : Int)), (15, iX 0)]) <| qz (σ := Nat) (fun k => [(5, pX b), (13, .slice (some ⟨sb, so, none⟩) st.length sc), (14, iX ((st.length : Nat) : Int)), (15, iX ((k : Nat) : Int))]) (fun k wv => (k : Int) ≤ ((st.length : Nat) : Int) ∧ Sys w wv [(d, [iX p1, iX p2], 22)] [(b, (doN (qa3 zeroT (p1) (p2)) st k))]) (fun k => (((st.length : Nat) : Int)).toNat - k) 0 rfl ?_ ?_
 ·exact ⟨by omega, n⟩
 intro k A B N C; obtain ⟨O, f⟩ := B; replace f : Sys w A [(d, [iX p1, iX p2], 22)] [(b, (doN (qa3 zeroT (p1) (p2)) st k))] := f; refine yx 1 <| ys <| yc (rL ((k : Nat) : Int) ((st.length : Nat) : Int)) (fun D => ?_) fun D => ?_
 ·refine yk <| ys <| q8 <| ysr <| yp 2 [] (.i ((k : Nat) : Int) (st.length) (.m (s_text (k := k) (Ch.rd f.ch hst id) (by omega)) (.m (s_w (k := k) (Ch.rd f.ch hst id) (by omega)) (.m (s_h (k := k) (Ch.rd f.ch hst id) (by omega)) (.e .z))))) <| yo (yN [oX, iX 0, iX 0] 37 fun E g F P G H => ?_); have p : Sys w E [(d, [iX p1, iX p2], 22), (g, [oX, iX 0, iX 0], 37)] [(b, (doN (qa3 zeroT (p1) (p2)) st k))] := f.box H G (Nat.le_of_eq F.symm); refine yo (yS (p.blk 1 (g, [oX, iX 0, iX 0], 37) rfl) fun I J K => ?_); have q : Sys w I [(d, [iX p1, iX p2], 22), (g, [.string (gs st k).text, iX (gs st k).w, iX (gs st k).h], 37)] [(b, (doN (qa3 zeroT (p1) (p2)) st k))] := p.set 1 rfl K (Blk.to J (by kernel_rfl)); refine ye <| q7 <| yp 2 [] (.a ((q.blk 1 (g, [.string (gs st k).text, iX (gs st k).w, iX (gs st k).h], 37) rfl).cs 0 3) .z) <| yo (yQ (q.do (i := 0) rfl (gs st k) (by have := hsh.2 k (by omega); omega)) fun r o => ?_); replace o : Sys w r [(d, [iX p1, iX p2], 22), (g, [.string (gs st k).text, iX (gs st k).w, iX (gs st k).h], 37)] [(b, (doT (doN (qa3 zeroT (p1) (p2)) st k) (gs st k)))] := o; refine yE (nB (nS ?_)); refine q7 <| yp 2 [] (.q6 (((k : Nat) : Int) + 1) .z) <| yE (fun a ha => C (k + 1) _ ⟨by omega, (Sys.pre (bs' := [(g, [.string (gs st k).text, iX (gs st k).w, iX (gs st k).h], 37)]) (show Sys w r (_ ++ [(g, [.string (gs st k).text, iX (gs st k).w, iX (gs st k).h], 37)]) _ from o))⟩ (by omega) a (ha.kp [5, 13, 14, 15]))
 refine qo (eS (qg (qd (nS ?_)))); refine yx 2 <| qe (yR1 (pX b) ?_); obtain rfl : k = st.length := by omega
 exact ⟨b, rfl, Sys.pre (bs := []) (bs' := [(d, [iX p1, iX p2], 22)]) f⟩
set_option maxHeartbeats 4000000 in
theorem make_nil (p1 p2 : Int) (a : Option Addr) (sc : Nat) (w : World) (hT : LT w) (h7 : gTop ≤ w.heap.size) : Calls Tryz.prog 11 [.agg #[iX p1, iX p2], .slice a 0 sc].toArray w fun e w' => ∃ t, e = .returned (pX t) ∧ Sys w w' [] [(t, doN (qa3 zeroT (p1) (p2)) [] 0)] := by
 have hS := Sys.start hT h7; refine yA Tryz.func11 rfl <| ysr <| yo (yN [iX p1, iX p2] 22 fun h b j o d k => ?_); refine yz 2 <| ysr <| yp 4 [] (.i 0 (2) (.l (d.c 0) (.i 1 (2) (.l (d.c 1) .z)))) ?_; have m : Sys w h [(b, [iX p1, iX p2], 22)] [] := hS.box k d (Nat.le_of_eq j.symm); refine yo (yC (m.new (p1) (p2)) ?_); rintro _ n ⟨f, rfl, g, p⟩; refine ⟨_, rfl, ?_⟩; replace g : Sys w n [(b, [iX p1, iX p2], 22)] [(f, (qa3 zeroT (p1) (p2)))] := g; refine yz 6 <| ys <| yx 3 <| q8 <| yU 1 (yU1 ?_); refine yx 1 <| ys <| ycf <| qo (eS (qg (qd (nS ?_)))); refine yx 2 <| qe (yR1 (pX f) ?_); exact ⟨f, rfl, Sys.pre (bs := []) (bs' := [(b, [iX p1, iX p2], 22)]) g⟩
theorem make_any (p1 p2 : Int) (a : Option Addr) (n sc : Nat) (st : List Stp) (w : World) (hT : LT w) (h7 : gTop ≤ w.heap.size) (ha : n = 0 ∨ ∃ b off, a = some ⟨b, off, none⟩) (hn : st.length = n) (hst : Rd w a (flatS st)) (hsh : st.length ≤ 80 ∧ ∀ k, k < st.length → (gs st k).text.size ≤ 600) :
 Calls Tryz.prog 11 [.agg #[iX p1, iX p2], .slice a n sc].toArray w fun e w' => ∃ t, e = .returned (pX t) ∧ Sys w w' [] [(t, doN (qa3 zeroT (p1) (p2)) st st.length)] := by
 rcases ha with rfl | ⟨b, off, rfl⟩
 ·obtain rfl := List.eq_nil_of_length_eq_zero hn; exact make_nil p1 p2 a sc w hT h7
 subst hn; exact qmC p1 p2 b off sc st w hT h7 hst hsh
theorem qmD (a : Option Addr) (n sc : Nat) (st : List Stp) (w : World) (hT : LT w) (h7 : gTop ≤ w.heap.size) (ha : n = 0 ∨ ∃ b off, a = some ⟨b, off, none⟩) (hn : st.length = n) (hst : Rd w a (flatS st)) :
 Calls Tryz.prog 10 [.slice a n sc].toArray w fun e w' => e = .returned (.bool (qfX st)) ∧ Ch (fun _ => False) w w' := by
 rcases ha with rfl | ⟨b, off, rfl⟩
 ·obtain rfl := List.eq_nil_of_length_eq_zero hn; exact qmw a sc w hT h7
 subst hn; exact qkz b off sc st w hT h7 hst
theorem wr_low {x : Int} (h : 0 ≤ x) : IntKind.wrap .u8 (x % 128 + 128) = ((x.toNat % 128 + 128 : Nat) : Int) := by
 rw [show x % 128 + 128 = ((x.toNat % 128 + 128 : Nat) : Int) by omega, wrap8]; congr 1; omega
theorem wr_top {x : Int} (h : 0 ≤ x) (h2 : x < 128) : IntKind.wrap .u8 x = ((x.toNat : Nat) : Int) := by
 obtain ⟨n, rfl⟩ : ∃ n : Nat, x = (n : Int) := ⟨x.toNat, by omega⟩
 rw [wrap8, Int.toNat_natCast]; congr 1; omega
theorem bt_getD {x : ByteArray} {k : Nat} (h : k < x.size) : bt x (k : Int) = (qaC x).getD k 0 := by
 have hl : k < (qaC x).length := by rw [qbX]; exact h
 unfold bt; rw [Int.toNat_natCast, dif_pos h, List.getD, List.getElem?_eq_getElem hl]; simp [qaC, ByteArray.getElem_eq_getElem_data]
def qah (b : Bool) (n : Int) : Int := if b = true then n else 0
theorem qkB (s : Sty) (h : qA s = true) : ((qc4 s : Nat) : Int) = s.fore + 16 * s.back + qah s.bold 256 + qah s.under 512 + qah s.turned 1024 := by
 unfold qA at h; simp only [Bool.and_eq_true, decide_eq_true_eq] at h; unfold qc4 qah; cases s.bold <;> cases s.under <;> cases s.turned <;> simp <;> omega
theorem qbn (b : Bool) (n : Int) (h : 0 ≤ n) : 0 ≤ qah b n ∧ qah b n ≤ n := by
 unfold qah; split <;> omega
theorem qmE (l : Bool) : (qah l 1).toNat = qY [l] := by cases l <;> rfl
theorem styl_bd {s : Sty} (h : qA s = true) : 0 ≤ s.fore ∧ s.fore ≤ 15 ∧ 0 ≤ s.back ∧ s.back ≤ 15 := by
 unfold qA at h; simp only [Bool.and_eq_true, decide_eq_true_eq] at h; omega
theorem qh7 {l : List Cel} {k : Nat} (h : k < l.length) : l.drop k = gc l (k : Int) :: l.drop (k + 1) := by
 rw [List.drop_eq_getElem_cons h, qcB h]
theorem qh8 {c : Nat} {d : Cel} {r : List Cel} : List.replicate c d ++ d :: r = List.replicate (c + 1) d ++ r := by
 rw [List.replicate_succ', List.append_assoc]; rfl
theorem c1_nat (c : Nat) : (((c : Nat) : Int) + 1).toNat = c + 1 := by omega
set_option maxHeartbeats 4000000 in
theorem qC {o : Option Nat} {n cap : Nat} {xs : List Int} {w : World} (hO : Own w tU8 1 o n cap (u8s xs)) (m : Int) (hm : 0 ≤ m ∧ m ≤ 9223372036854775807) (hz : n + 10 ≤ 1000000000) : Calls Tryz.prog 26 [.slice (o.map at0) n cap, iX m].toArray w fun e w' => ∃ o' n' cap', e = .returned (.slice (o'.map at0) n' cap') ∧ Own w' tU8 1 o' n' cap' (u8s (xs ++ qaA m.toNat)) ∧ n' ≤ n + 10 ∧ App w w' o o' := by
 refine yA Tryz.func26 rfl <| yx 1 <| ys <| q8 <| qT [0, 1] (f' := [(0, .slice (o.map at0) n cap), (1, iX m)]) <| qz (σ := Int × Nat × List Int × Option Nat × Nat × Nat) (fun ⟨x, f, zs, d, c, g⟩ => [(0, .slice (d.map at0) c g), (1, iX x)]) (fun ⟨x, f, zs, d, c, g⟩ u => 0 ≤ x ∧ x.toNat < 128 ^ (f + 1) ∧ zs ++ qg1 f x.toNat = xs ++ qaA m.toNat ∧ Own u tU8 1 d c g (u8s zs) ∧ App w u o d ∧ c + f + 1 ≤ n + 10 ∧ x ≤ m) (fun ⟨x, f, zs, d, c, g⟩ => x.toNat) (m, 9, xs, o, n, cap) rfl ?_ ?_
 ·exact ⟨hm.1, by have A : (128 : Nat) ^ (9 + 1) = 1180591620717411303424 := (by decide); rw [A]; omega, rfl, hO, App.refl _ _, by omega, Int.le_refl _⟩
 intro q a0 B a1 C; obtain ⟨x, f, zs, d, c, g⟩ := q; obtain ⟨k, D, l, i, r, a2, a3⟩ := B; refine ys <| yx 2 <| yc (rM 128 x) (fun j => ?_) fun j => ?_
 ·have a4 := j; refine yk <| q8 <| ysr ?_; refine yp 5 [] (.p (q := 0 ≤ (x : Int) ∧ 0 < (128 : Int)) (by constructor <;> omega) (.q6 ((x % 128) + 128) .z)) ?_; refine yo (yB [uX (IntKind.wrap .u8 ((x % 128) + 128))] 5 1 fun a5 s a6 a7 E t => ?_); have a8 := zv (b := s) i; have F := i.ch t iZ; have G := r.step t iZ; refine yo (qai 5 1 1 d c g (u8s zs) (some ⟨s, 0, none⟩) 1 1 [uX (IntKind.wrap .u8 ((x % 128) + 128))] (some 13) (c + 1) rfl (u8s (zs ++ [(IntKind.wrap .u8 ((x % 128) + 128))])) (by first | (rw [u8s, u8s, List.map_append]; rfl) | simp only [u8s, List.map_append, List.map_cons, List.map_nil]) (by kernel_rfl) F (Rd.all E) rfl rfl (fun h => by cases h) (by constructor <;> first | omega | (simp only [maxLen]; omega)) ?_); intro a9 H I J K aa L; have M := App.of K L; have N := G.trans M; refine yz 8 <| q7 ?_; refine yp 3 [] (.p (q := 0 ≤ (x : Int) ∧ 0 < (128 : Int)) (by constructor <;> omega) (.q6 (x / 128) .z)) ?_; obtain ⟨f, rfl⟩ : ∃ f', f = f' + 1 := by
   cases f with
   | zero => exfalso; have : x.toNat < 128 := D; omega
   | succ f => exact ⟨f, rfl⟩
  have ab : 128 ^ (f + 1 + 1) = 128 ^ (f + 1) * 128 := rfl; have O := wr_low k; have hq : zs ++ [IntKind.wrap .u8 (x % 128 + 128)] ++ qg1 f (x / 128).toNat = xs ++ qaA m.toNat := by rw [← l, qdN (by omega), O, show (x / 128).toNat = x.toNat / 128 by omega, List.append_assoc]; rfl
  refine yE (nB  (fun a ha => C (x / 128, f, (zs ++ [(IntKind.wrap .u8 ((x % 128) + 128))]), H, (c + 1), I) _ ⟨by omega, by omega, hq, J, N, by omega, by omega⟩ (by show (x / 128).toNat < x.toNat; omega) a (ha.kp [0, 1])))
 have ac := j; refine qo (eS (qg (qd (nS ?_)))); refine ysr <| yq 3 <| yo (yB [uX (IntKind.wrap .u8 x)] 5 1 fun ad v ae af P y => ?_); have ag := zv (b := v) i; have Q := i.ch y iZ; have R := r.step y iZ; refine yo (qai 5 1 1 d c g (u8s zs) (some ⟨v, 0, none⟩) 1 1 [uX (IntKind.wrap .u8 x)] (some 20) (c + 1) rfl (u8s (zs ++ [(IntKind.wrap .u8 x)])) (by first | (rw [u8s, u8s, List.map_append]; rfl) | simp only [u8s, List.map_append, List.map_cons, List.map_nil]) (by kernel_rfl) Q (Rd.all P) rfl rfl (fun h => by cases h) (by constructor <;> first | omega | (simp only [maxLen]; omega)) ?_); intro ah S T U V ai W; have X := App.of V W; have Y := R.trans X; refine yz 6 <| qe (yR1 (.slice (S.map at0) (c + 1) T) ?_); exact ⟨_, _, _, rfl, by have h := U; have Z : zs ++ [IntKind.wrap .u8 x] = xs ++ qaA m.toNat := (by rw [← l, qco (by omega), wr_top k (by omega)]); rw [Z] at h; exact h, by omega, Y⟩
set_option maxHeartbeats 4000000 in
theorem qcy {o : Option Nat} {n cap : Nat} {xs : List Int} {w : World} (hO : Own w tU8 1 o n cap (u8s xs)) (x : ByteArray) (hx : x.size ≤ 100000) (hz : n + 10 + x.size ≤ 1000000000) : Calls Tryz.prog 30 [.slice (o.map at0) n cap, .string x].toArray w fun e w' => ∃ o' n' cap', e = .returned (.slice (o'.map at0) n' cap') ∧ Own w' tU8 1 o' n' cap' (u8s (xs ++ qde x)) ∧ n' ≤ n + (10 + x.size) ∧ App w w' o o' := by
 refine yA Tryz.func30 rfl <| yx 1 <| ysr <| yq 3 <| yo (yC (qC hO (((x).size : Int)) (by omega) (by omega)) ?_); rintro _ Q ⟨l, m, p, rfl, A, R, B⟩; refine ⟨_, rfl, ?_⟩; have C := (App.refl w o).trans B; refine yz 5 <| ys <| yx 1 <| q8 <| qT [0, 1, 5] (f' := [(0, .slice (l.map at0) m p), (1, .string x), (5, iX 0)]) <| qz (σ := Nat × Option Nat × Nat × Nat) (fun ⟨k, d, c, f⟩ => [(0, .slice (d.map at0) c f), (1, .string x), (5, iX ((k : Nat) : Int))]) (fun ⟨k, d, c, f⟩ u => k ≤ x.size ∧ Own u tU8 1 d c f (u8s ((xs ++ qaA (((x).size : Int)).toNat) ++ (qaC x).take k)) ∧ App w u o d ∧ c ≤ n + 10 + k) (fun ⟨k, d, c, f⟩ => x.size - k) (0, l, m, p) rfl ?_ ?_
 ·exact ⟨Nat.zero_le _, by rw [List.take_zero, List.append_nil]; exact A, C, by omega⟩
 intro q S D T E; obtain ⟨k, d, c, f⟩ := q; obtain ⟨hk, g, r, U⟩ := D; refine ys <| yx 4 <| yc (rL ((k : Nat) : Int) ((x).size : Int)) (fun j => ?_) fun j => ?_
 ·have V := j; refine yk <| ys <| q8 <| q7 <| yp 4 [] (.i ((k : Nat) : Int) ((x).size) .z) <| yo (yB [uX (bt x ((k : Nat) : Int))] 5 1 fun W s X Y F t => ?_); have Z := zv (b := s) g; have G := g.ch t iZ; have H := r.step t iZ; refine yo (qai 5 1 1 d c f (u8s ((xs ++ qaA (((x).size : Int)).toNat) ++ (qaC x).take k)) (some ⟨s, 0, none⟩) 1 1 [uX (bt x ((k : Nat) : Int))] (some 21) (c + 1) rfl (u8s (((xs ++ qaA (((x).size : Int)).toNat) ++ (qaC x).take k) ++ [(bt x ((k : Nat) : Int))])) (by first | (rw [u8s, u8s, List.map_append]; rfl) | simp only [u8s, List.map_append, List.map_cons, List.map_nil]) (by kernel_rfl) G (Rd.all F) rfl rfl (fun h => by cases h) (by constructor <;> first | omega | (simp only [maxLen]; omega)) ?_); intro I v y J K a0 L; have M := App.of K L; have N := H.trans M; refine yq 7 <| yE (nB (nS ?_)); refine q7 <| yp 3 [] (.q6 (((k : Nat) : Int) + 1) .z) ?_; have O : Own I tU8 1 v (c + 1) y (u8s ((xs ++ qaA (((x).size : Int)).toNat) ++ (qaC x).take (k + 1))) := by
   have h := J; rw [qfg (by rw [qbX]; omega), ← List.append_assoc, ← bt_getD (by omega)]; exact h
  refine yE (fun a ha => E (k + 1, v, (c + 1), y) _ ⟨by omega, O, N, by omega⟩ (by show x.size - (k + 1) < x.size - k; omega) a (ha.kp [0, 1, 5]))
 have a1 := j; refine qo (eS (qg (qd (nS ?_)))); refine yx 2 <| qe (yR1 (.slice (d.map at0) c f) ?_); exact ⟨_, _, _, rfl, by have h := g; have P : k = x.size := (by omega); rw [P, List.take_of_length_le (by rw [qbX]; omega), List.append_assoc, Int.toNat_natCast] at h; exact h, by omega, r⟩
set_option maxHeartbeats 4000000 in
theorem qas (b : Bool) (n : Int) (w : World) : Calls Tryz.prog 27 [.bool b, iX n].toArray w fun e w' => e = .returned (iX (qah b n)) ∧ Ch (fun _ => False) w w' := by
 refine yA Tryz.func27 rfl <| yx 1 <| ys <| yx 1 <| yc (rY b) (fun a => ?_) fun a => ?_
 ·have c := a; refine yx 2 <| qe (rS (yR1 (iX n) ?_)); exact ⟨by simp only [qah]; simp [*], Up.ch (zm w)⟩
 have d := a; refine yk <| yx 1 <| qe (yR1 (iX 0) ?_); exact ⟨by simp only [qah]; simp [*], Up.ch (zm w)⟩
set_option maxHeartbeats 4000000 in
theorem qdq (s : Sty) (hs : qA s = true) (w : World) : Calls Tryz.prog 50 [.agg #[.bool s.bold, .bool s.under, .bool s.turned, iX s.fore, iX s.back]].toArray w fun e w' => e = .returned (iX ((qc4 s : Nat) : Int)) ∧ Ch (fun _ => False) w w' := by
 have q := qbn s.bold 256 (by decide); have r := qbn s.under 512 (by decide); have t := qbn s.turned 1024 (by decide); have v := styl_bd hs; refine yA Tryz.func50 rfl <| ysr <| yo (yN [.bool s.bold, .bool s.under, .bool s.turned, iX s.fore, iX s.back] 44 fun x y h A i j => ?_); have B := zn h (zm w); have k := zu (zm w) j iZ; refine yz 2 <| ys <| yDC [] fun C D b => ?_; have m := zu k b iZ; have a := i.ch b id; refine ydC [0, 1, 2, 3, 4, 5, 6, 7, 10, 11, 14, 15] [] (fun u hu => (.l (qf hu (a.c 3) id) (.l (qf hu (a.c 4) id) (.q6 (16 * s.back) (.q6 (s.fore + (16 * s.back)) (.l (qf hu (a.c 0) id) (.l (qf hu (a.c 1) id) (.l (qf hu (a.c 2) id) .z)))))))) <| yH 8 (yQ (qas s.bold 256 _) fun E d => ?_); have n := zu m d iZ; refine qad d <| ydC [9] [] (fun u hu => (.q6 ((s.fore + (16 * s.back)) + (qah s.bold 256)) .z)) <| yH 12 (yQ (qas s.under 512 _) fun F f => ?_); have o := zu n f iZ; refine qad f <| ydC [13] [] (fun u hu => (.q6 (((s.fore + (16 * s.back)) + (qah s.bold 256)) + (qah s.under 512)) .z)) <| yH 16 (yQ (qas s.turned 1024 _) fun G g => ?_); have p := zu o g iZ; refine qad g <| ydC [17, 18] [] (fun u hu => (.q6 ((((s.fore + (16 * s.back)) + (qah s.bold 256)) + (qah s.under 512)) + (qah s.turned 1024)) .z)) <| yDe (nS ?_); refine qe (yR1 (iX ((((s.fore + (16 * s.back)) + (qah s.bold 256)) + (qah s.under 512)) + (qah s.turned 1024))) ?_); exact ⟨congrArg Ending.returned (congrArg (Value.int .i64) (qkB s hs).symm), Up.ch p⟩
set_option maxHeartbeats 4000000 in
theorem qel {o : Option Nat} {n cap : Nat} {xs : List Int} {w : World} (hO : Own w tU8 1 o n cap (u8s xs)) (c : Cur) (hc : CurB c) (hz : n + 40 ≤ 1000000000) : Calls Tryz.prog 28 [.slice (o.map at0) n cap, .agg #[iX c.x, iX c.y, .bool c.late, .bool c.sty.bold, .bool c.sty.under, .bool c.sty.turned, iX c.sty.fore, iX c.sty.back]].toArray w fun e w' => ∃ o' n' cap', e = .returned (.slice (o'.map at0) n' cap') ∧ Own w' tU8 1 o' n' cap' (u8s (xs ++ qc5 c)) ∧ n' ≤ n + 40 ∧ App w w' o o' := by
 have a6 := qd9 hc.s; have a7 := qbn c.late 1 (by decide); have a8 := hc.x; have a9 := hc.y; refine yA Tryz.func28 rfl <| ysr <| yo (yN [iX c.x, iX c.y, .bool c.late, .bool c.sty.bold, .bool c.sty.under, .bool c.sty.turned, iX c.sty.fore, iX c.sty.back] 46 fun aa k ab ac G B => ?_); have m := zv (b := k) hO; have H := hO.ch B iZ; have I := (App.refl w o).step B iZ; refine yz 2 <| ys <| qG (fun b => ¬ b = k) [6] (by kernel_rfl) (fun ad ae p => ?_); have J := H.ch p iZ; have K := I.step p iZ; have d := G.ch p id; refine ydC [0, 1, 2, 4, 5] [] (fun u hu => (.l (qf hu (d.c 0) (fun h => h rfl)) (.l (qf hu (d.c 1) (fun h => h rfl)) .z))) <| yH 3 (yC (qC J (c.x) (by omega) (by omega)) ?_); rintro _ af ⟨ag, ah, ai, rfl, L, aj, f⟩; refine ⟨_, rfl, ?_⟩; have C := f.apart d.lt m; have M := K.trans f; have D := d.ch f.ch (fun h => m _ h rfl); refine qj f.ch ((fun i _ h e => m i h e)) <| yK 6 (yC (qC L (c.y) (by omega) (by omega)) ?_); rintro _ ak ⟨al, am, an, rfl, N, ao, q⟩; refine ⟨_, rfl, ?_⟩; have r := q.apart D.lt C; have O := M.trans q; have P := D.ch q.ch (fun h => C _ h rfl); refine q9 <| yd [7] [] .z <| yDe (nS ?_); refine ys <| qG (fun b => ¬ b = k) [7, 8] (by kernel_rfl) (fun ap aq t => ?_); have v := P.ch t id; have Q := N.ch t iZ; have R := O.step t iZ; refine ydC [0, 1, 2, 5, 6] [] (fun u hu => (.l (qf hu (v.c 2) (fun h => h rfl)) (.a (qB hu (v.cs 3 5) (fun h => h rfl)) .z))) <| yH 3 (yQ (qas c.late 1 _) fun ar g => ?_)
 have E := v.ch g id; have S := Q.ch g iZ; have T := R.step g iZ; refine qj g eZ <| yH 4 (yC (qC S ((qah c.late 1)) (by omega) (by omega)) ?_); rintro _ au ⟨av, aw, ax, rfl, U, ay, j⟩; refine ⟨_, rfl, ?_⟩; have V := j.apart E.lt r; have W := T.trans j; have X := E.ch j.ch (fun h => r _ h rfl); refine qj j.ch ((fun i _ h e => r i h e)) <| yK 7 (yQ (qdq c.sty hc.s _) fun az A => ?_); have Y := X.ch A id; have Z := U.ch A iZ; have a0 := W.step A iZ; refine q9 <| yK 8 (yC (qC Z (((qc4 c.sty : Nat) : Int)) (by omega) (by omega)) ?_); rintro _ aA ⟨a1, a2, a3, rfl, a4, aB, F⟩; refine ⟨_, rfl, ?_⟩; have aC := F.apart Y.lt V; have a5 := a0.trans F; refine q9 <| yd [9] [] .z <| yDe (nS ?_); refine qe (yR1 (.slice (a1.map at0) a2 a3) ?_); exact ⟨_, _, _, rfl, by have h := a4; unfold qc5; rw [← qmE]; simp only [List.append_assoc, Int.toNat_natCast] at h ⊢; exact h, by omega, a5⟩
set_option maxHeartbeats 4000000 in
theorem qdr {o : Option Nat} {n cap : Nat} {xs : List Int} {w : World} (hO : Own w tU8 1 o n cap (u8s xs)) (lb ln lc : Nat) (l : List Cel) (hr : Rd w (some ⟨lb, 0, none⟩) (qa6 l)) (hlb : lb < w.heap.size) (hne : ∀ b, o = some b → ¬ b = lb) (hln : l.length = ln) (hcs : ∀ c ∈ l, cOk c) (hz : n + 30 * ln ≤ 1000000000) : Calls Tryz.prog 29 [.slice (o.map at0) n cap, .slice (some ⟨lb, 0, none⟩) ln lc].toArray w fun e w' => ∃ o' n' cap', e = .returned (.slice (o'.map at0) n' cap') ∧ Own w' tU8 1 o' n' cap' (u8s (xs ++ qU l)) ∧ n' ≤ n + 30 * ln ∧ App w w' o o' := by
 refine yA Tryz.func29 rfl <| yx 1 <| yx 1 <| ys <| yx 1 <| q8 <| qT [0, 1, 5, 6] (f' := [(0, .slice (o.map at0) n cap), (1, .slice (some ⟨lb, 0, none⟩) ln lc), (5, iX 0), (6, iX 0)]) <| qz (σ := Nat × Nat × List Int × Option Nat × Nat × Nat) (fun ⟨k, c, ws, f, g, j⟩ => [(0, .slice (f.map at0) g j), (1, .slice (some ⟨lb, 0, none⟩) ln lc), (5, iX ((c : Nat) : Int)), (6, iX ((k : Nat) : Int))]) (fun ⟨k, c, ws, f, g, j⟩ u => k ≤ ln ∧ c ≤ k ∧ (k = ln → c = 0) ∧ ws ++ qU (List.replicate c (gc l ((k : Nat) : Int)) ++ l.drop k) = qU l ∧ Own u tU8 1 f g j (u8s (xs ++ ws)) ∧ App w u o f ∧ g ≤ n + 30 * k) (fun ⟨k, c, ws, f, g, j⟩ => ln - k) (0, 0, [], o, n, cap) rfl ?_ ?_
 ·exact ⟨Nat.zero_le _, Nat.le_refl _, fun _ => rfl, rfl, by rw [List.append_nil]; exact hO, App.refl _ _, Nat.le_refl _⟩
 intro p az a6 aA A; obtain ⟨k, c, ws, f, g, j⟩ := p; obtain ⟨hk, aB, a7, t, B, x, aC⟩ := a6; have a8 := Ch.rd x.ch hr (fun h => hne _ h rfl); have y := x.apart hlb hne; refine ys <| yx 4 <| yc (rL ((k : Nat) : Int) ((ln : Nat) : Int)) (fun a9 => ?_) fun a9 => ?_
 ·have aa := hcs _ (qlK (l := l) (i := k) (by omega)); obtain ⟨C, aD, aE⟩ := aa; have aF := qd9 C; refine yk <| ys <| q8 <| ysr <| yp 3 [] (.q6 (((c : Nat) : Int) + 1) .z) <| ye <| ys <| yD [] fun aG aH D => ?_; have E := B.ch D iZ; have F := x.step D iZ; have d := Ch.rd D a8 id; refine yd (uL 0 6) [] (.q6 (((k : Nat) : Int) + 1) .z) <| yv [20] (rE (((k : Nat) : Int) + 1) ((ln : Nat) : Int)) (fun ab => ?_) fun ab => ?_
  ·have G : (l.drop (k + 1)).head? ≠ some (gc l ((k : Nat) : Int)) := by rw [List.drop_eq_nil_of_le (by omega)]; simp
   refine yd (uL 6 11) [] .z <| yDe (nS ?_); refine yct <| ys <| qG (fun b => ¬ b = lb) [15, 16] (by kernel_rfl) (fun aI aJ H => ?_); have ac := E.ch H iZ; have O := F.step H iZ; have q := Ch.rd H d id; refine ydC [0, 1, 3, 4, 5, 6, 7, 8, 10, 11, 12, 13, 14] [] (fun u hu => (.i ((k : Nat) : Int) (ln) (.l (qf hu (qcb (i := ((k : Nat) : Int)) q (by omega) (by omega)) (fun h => h rfl)) (.q6 (gc l ((k : Nat) : Int)).rune (.i ((k : Nat) : Int) (ln) (.m (qf hu (qcc (i := ((k : Nat) : Int)) q (by omega) (by omega)) (fun h => h rfl)) (.m (qf hu (qbk (i := ((k : Nat) : Int)) q (by omega) (by omega)) (fun h => h rfl)) (.m (qf hu (qaL (i := ((k : Nat) : Int)) q (by omega) (by omega)) (fun h => h rfl)) (.m (qf hu (qcd (i := ((k : Nat) : Int)) q (by omega) (by omega)) (fun h => h rfl)) (.m (qf hu (qce (i := ((k : Nat) : Int)) q (by omega) (by omega)) (fun h => h rfl)) (.e .z))))))))))) <| yH 2 (yC (qC ac ((((c : Nat) : Int) + 1)) (by omega) (by omega)) ?_); rintro _ aK ⟨aL, aM, aN, rfl, ad, aO, I⟩; refine ⟨_, rfl, ?_⟩; have P := I.apart (Nat.lt_of_lt_of_le hlb O.ch.size) y; have Q := O.trans I; refine qj I.ch ((fun i _ h e => y i h e)) <| yH 9 (yC (qC ad ((gc l ((k : Nat) : Int)).rune) (by omega) (by omega)) ?_); rintro _ aP ⟨aQ, aR, aS, rfl, ae, aT, J⟩; refine ⟨_, rfl, ?_⟩; have af := J.apart (Nat.lt_of_lt_of_le hlb Q.ch.size) P; have ag := Q.trans J; refine qj J.ch ((fun i _ h e => P i h e)) <| yK 15 (yQ (qdq (gc l ((k : Nat) : Int)).sty C _) fun aU R => ?_)
   have ah := ae.ch R iZ; have S := ag.step R iZ; refine q9 <| yK 16 (yC (qC ah (((qc4 (gc l ((k : Nat) : Int)).sty : Nat) : Int)) (by omega) (by omega)) ?_); rintro _ ai ⟨T, U, V, rfl, aj, aV, W⟩; refine ⟨_, rfl, ?_⟩; have aW := W.apart (Nat.lt_of_lt_of_le hlb S.ch.size) af; have ak := S.trans W; refine q9 <| yd [17] [] .z <| yDe (nS ?_); refine q7 <| yq 1 <| yE (nB (nS ?_)); refine q7 <| yp 3 [] (.q6 (((k : Nat) : Int) + 1) .z) ?_; have v : (ws ++ qbO (c + 1) (gc l ((k : Nat) : Int))) ++ qU (List.replicate 0 (gc l (((k + 1 : Nat)) : Int)) ++ l.drop (k + 1)) = qU l := by
    rw [← t, qh7 (k := k) (by omega), qh8, qcq G, List.append_assoc]; rfl
   have K : Own ai tU8 1 T U V (u8s (xs ++ (ws ++ qbO (c + 1) (gc l ((k : Nat) : Int))))) := by
    have h := aj; unfold qbO; simp only [List.append_assoc, Int.toNat_natCast, c1_nat] at h ⊢; exact h
   refine yE (fun a ha => A (k + 1, 0, ws ++ qbO (c + 1) (gc l ((k : Nat) : Int)), T, U, V) _ ⟨by omega, by omega, fun _ => rfl, v, K, ak, by omega⟩ (by show ln - (k + 1) < ln - k; omega) a (ha.kp [0, 1, 5, 6]))
  refine yd (uL 6 11) [] (.q6 (((k : Nat) : Int) + 1) (.i (((k : Nat) : Int) + 1) (ln) (.m (qcb (i := (((k : Nat) : Int) + 1)) d (by omega) (by omega)) (.m (qcc (i := (((k : Nat) : Int) + 1)) d (by omega) (by omega)) (.m (qbk (i := (((k : Nat) : Int) + 1)) d (by omega) (by omega)) (.m (qaL (i := (((k : Nat) : Int) + 1)) d (by omega) (by omega)) (.m (qcd (i := (((k : Nat) : Int) + 1)) d (by omega) (by omega)) (.m (qce (i := (((k : Nat) : Int) + 1)) d (by omega) (by omega)) (.e (.i ((k : Nat) : Int) (ln) (.m (qcb (i := ((k : Nat) : Int)) d (by omega) (by omega)) (.m (qcc (i := ((k : Nat) : Int)) d (by omega) (by omega)) (.m (qbk (i := ((k : Nat) : Int)) d (by omega) (by omega)) (.m (qaL (i := ((k : Nat) : Int)) d (by omega) (by omega)) (.m (qcd (i := ((k : Nat) : Int)) d (by omega) (by omega)) (.m (qce (i := ((k : Nat) : Int)) d (by omega) (by omega)) (.e .z))))))))))))))))) <| yDe (nS ?_); refine yc (rN (rY ((((gc l (((k : Nat) : Int) + 1)).rune : Int) == (gc l ((k : Nat) : Int)).rune) && ((((gc l (((k : Nat) : Int) + 1)).sty.bold == (gc l ((k : Nat) : Int)).sty.bold) && (((gc l (((k : Nat) : Int) + 1)).sty.under == (gc l ((k : Nat) : Int)).sty.under) && (((gc l (((k : Nat) : Int) + 1)).sty.turned == (gc l ((k : Nat) : Int)).sty.turned) && ((((gc l (((k : Nat) : Int) + 1)).sty.fore : Int) == (gc l ((k : Nat) : Int)).sty.fore) && ((((gc l (((k : Nat) : Int) + 1)).sty.back : Int) == (gc l ((k : Nat) : Int)).sty.back) && true))))) && true)))) (fun r => ?_) fun r => ?_
  ·rw [qe9] at r; have G : (l.drop (k + 1)).head? ≠ some (gc l ((k : Nat) : Int)) := by rw [qi8 (by omega)]; intro e; have e := zi e; rw [show (((k + 1 : Nat)) : Int) = ((k : Nat) : Int) + 1 by omega] at e; rw [e] at r; simp at r
   refine ys <| qG (fun b => ¬ b = lb) [15, 16] (by kernel_rfl) (fun aX aY L => ?_); have al := E.ch L iZ; have X := F.step L iZ; have s := Ch.rd L d id; refine ydC [0, 1, 3, 4, 5, 6, 7, 8, 10, 11, 12, 13, 14] [] (fun u hu => (.i ((k : Nat) : Int) (ln) (.l (qf hu (qcb (i := ((k : Nat) : Int)) s (by omega) (by omega)) (fun h => h rfl)) (.q6 (gc l ((k : Nat) : Int)).rune (.i ((k : Nat) : Int) (ln) (.m (qf hu (qcc (i := ((k : Nat) : Int)) s (by omega) (by omega)) (fun h => h rfl)) (.m (qf hu (qbk (i := ((k : Nat) : Int)) s (by omega) (by omega)) (fun h => h rfl)) (.m (qf hu (qaL (i := ((k : Nat) : Int)) s (by omega) (by omega)) (fun h => h rfl)) (.m (qf hu (qcd (i := ((k : Nat) : Int)) s (by omega) (by omega)) (fun h => h rfl)) (.m (qf hu (qce (i := ((k : Nat) : Int)) s (by omega) (by omega)) (fun h => h rfl)) (.e .z))))))))))) <| yH 2 (yC (qC al ((((c : Nat) : Int) + 1)) (by omega) (by omega)) ?_); rintro _ aZ ⟨b0, b1, b2, rfl, am, b3, M⟩; refine ⟨_, rfl, ?_⟩; have Y := M.apart (Nat.lt_of_lt_of_le hlb X.ch.size) y; have Z := X.trans M; refine qj M.ch ((fun i _ h e => y i h e)) <| yH 9 (yC (qC am ((gc l ((k : Nat) : Int)).rune) (by omega) (by omega)) ?_); rintro _ b4 ⟨b5, b6, b7, rfl, an, b8, N⟩; refine ⟨_, rfl, ?_⟩; have ao := N.apart (Nat.lt_of_lt_of_le hlb Z.ch.size) Y; have ap := Z.trans N; refine qj N.ch ((fun i _ h e => Y i h e)) <| yK 15 (yQ (qdq (gc l ((k : Nat) : Int)).sty C _) fun b9 a0 => ?_)
   have aq := an.ch a0 iZ; have a1 := ap.step a0 iZ; refine q9 <| yK 16 (yC (qC aq (((qc4 (gc l ((k : Nat) : Int)).sty : Nat) : Int)) (by omega) (by omega)) ?_); rintro _ ar ⟨a2, a3, a4, rfl, au, ba, a5⟩; refine ⟨_, rfl, ?_⟩; have bb := a5.apart (Nat.lt_of_lt_of_le hlb a1.ch.size) ao; have av := a1.trans a5; refine q9 <| yd [17] [] .z <| yDe (nS ?_); refine q7 <| yq 1 <| yE (nB (nS ?_)); refine q7 <| yp 3 [] (.q6 (((k : Nat) : Int) + 1) .z) ?_; have v : (ws ++ qbO (c + 1) (gc l ((k : Nat) : Int))) ++ qU (List.replicate 0 (gc l (((k + 1 : Nat)) : Int)) ++ l.drop (k + 1)) = qU l := by
    rw [← t, qh7 (k := k) (by omega), qh8, qcq G, List.append_assoc]; rfl
   have K : Own ar tU8 1 a2 a3 a4 (u8s (xs ++ (ws ++ qbO (c + 1) (gc l ((k : Nat) : Int))))) := by
    have h := au; unfold qbO; simp only [List.append_assoc, Int.toNat_natCast, c1_nat] at h ⊢; exact h
   refine yE (fun a ha => A (k + 1, 0, ws ++ qbO (c + 1) (gc l ((k : Nat) : Int)), a2, a3, a4) _ ⟨by omega, by omega, fun _ => rfl, v, K, av, by omega⟩ (by show ln - (k + 1) < ln - k; omega) a (ha.kp [0, 1, 5, 6]))
  rw [qe9] at r; have aw := eq_of_beq r; refine qr (nB (nS ?_)); refine q7 <| yp 3 [] (.q6 (((k : Nat) : Int) + 1) .z) ?_; have v : ws ++ qU (List.replicate (c + 1) (gc l (((k + 1 : Nat)) : Int)) ++ l.drop (k + 1)) = qU l := by
   rw [← t, qh7 (k := k) (by omega), qh8, ← aw]; rfl
  refine yE (fun a ha => A (k + 1, c + 1, ws, f, g, j) _ ⟨by omega, by omega, fun e => by omega, v, E, F, by omega⟩ (by show ln - (k + 1) < ln - k; omega) a (ha.kp [0, 1, 5, 6]))
 refine qo (eS (qg (qd (nS ?_)))); refine yx 2 <| qe (yR1 (.slice (f.map at0) g j) ?_); have ax : k = ln := by omega
 rw [a7 ax, List.drop_eq_nil_of_le (by omega)] at t; have ay : ws = qU l := by rw [← t]; exact (List.append_nil _).symm
 rw [ay] at B; exact ⟨_, _, _, rfl, B, by omega, x⟩
theorem bits8 : ∀ a b c d e f g h : Bool, (qah a 1 + qah b 2 + qah c 4 + qah d 8 + qah e 16 + qah f 32 + qah g 64 + qah h 128).toNat = qY [a, b, c, d, e, f, g, h] := by decide
set_option maxHeartbeats 4000000 in
theorem qgb {w : World} {t : Nat} {T : TS} {F : Nat → Prop} (hA0 : TermAt w t T F) (he : EncOk T) : Calls Tryz.prog 13 [pX t].toArray w fun e w' =>
 ∃ o n cap, e = .returned (.slice (o.map at0) n cap) ∧ Own w' tU8 1 o n cap (u8s (qeg T)) ∧ n ≤ 1000000 ∧ (∀ b, o = some b → w.heap.size ≤ b) ∧ Ch (fun _ => False) w w' := by
 obtain ⟨g, q, ba, bn, bc, pa, pn, pc, F1, F2, FB, FP, hI⟩ := hA0; obtain ⟨r1, bj, B, C⟩ := hI.g1; obtain ⟨r2, bm, D, H⟩ := hI.g2; obtain ⟨ad, I, a6⟩ := hI.bk; have eV : bn ≤ 60 := by have h1 := I.len; have h2 := he.k.1; rw [← a6, List.length_map] at h2; omega
 have eX := he.w; have eY := he.h; have fa := he.t; have fb := he.ti; have fc := he.r; have fd := he.p.st; have fe := he.p.wi; have ff := he.p.u; have fg := he.p.m; have fh := he.p.t; have cl := qdU he.p.u; have cm := hI.ps.2.1; have fi := he.p.n; have cn := bits8 T.wrap T.origin T.insert T.hidden T.alt T.draw0 T.draw1 T.shift; have co : pn = 0 ∨ ∃ b f, pa = some ⟨b, f, none⟩ := by
  rcases hI.pz with ⟨po, bp⟩; cases po with
  | none => exact .inl (by have h := hI.ps.1.1 (by rw [bp]; rfl); have h2 := hI.ps.2.1; rw [List.map_eq_nil_iff] at h; rw [h] at h2; exact h2.symm)
  | some b => exact .inr ⟨b, 0, by rw [bp]; rfl⟩
 have fj := qbn T.wrap 1 (by decide); have fk := qbn T.origin 2 (by decide); have fl := qbn T.insert 4 (by decide); have fm := qbn T.hidden 8 (by decide); have fn := qbn T.alt 16 (by decide); have fo := qbn T.draw0 32 (by decide); have fp := qbn T.draw1 64 (by decide); have fq := qbn T.shift 128 (by decide); refine yA Tryz.func13 rfl <| yx 1 <| ys <| qG (fun b => w.heap.size ≤ b) [25] (by kernel_rfl) (fun fr fs bq => ?_); have cp := (show Own w tU8 1 none 0 0 (u8s []) from Own.nil w tU8 1).ch bq iZ; have P := (App.refl w none).step bq iZ; refine ydC [0, 1, 2, 3, 4, 5, 6, 8, 9, 10, 11, 12, 13, 14, 16, 17, 18, 19, 21, 22, 23, 24] [] (fun u hu => (.l (qf hu (qf (qp P.ch) (hI.blk.c 0) id) (fun h => by have := hI.blk.lt; omega)) (.l (qf hu (qf (qp P.ch) (C.head.c 0) id) (fun h => by have := C.head.lt; omega)) (.l (qf hu (qf (qp P.ch) (hI.blk.c 0) id) (fun h => by have := hI.blk.lt; omega)) (.l (qf hu (qf (qp P.ch) (C.head.c 1) id) (fun h => by have := C.head.lt; omega)) (.l (qf hu (qf (qp P.ch) (hI.blk.c 26) id) (fun h => by have := hI.blk.lt; omega)) (.l (qf hu (qf (qp P.ch) (hI.blk.c 27) id) (fun h => by have := hI.blk.lt; omega)) .z))))))) <| yH 7 (yC (qC cp (T.grid.w) (by omega) (by omega)) ?_); rintro _ ft ⟨fu, fv, fw, rfl, cq, fx, br⟩; refine ⟨_, rfl, ?_⟩; have bs := P.trans br; refine qj br.ch ((fun i _ h => P.new i h)) <| yH 15 (yC (qC cq (T.grid.h) (by omega) (by omega)) ?_)
 rintro _ fy ⟨fz, fA, fB, rfl, cr, fC, bt⟩; refine ⟨_, rfl, ?_⟩; have bu := bs.trans bt; refine qj bt.ch ((fun i _ h => bs.new i h)) <| yH 20 (yC (qC cr (T.top) (by omega) (by omega)) ?_); rintro _ fD ⟨fE, fF, fG, rfl, ct, fH, bv⟩; refine ⟨_, rfl, ?_⟩; have cu := bu.trans bv; refine qj bv.ch ((fun i _ h => bu.new i h)) <| yK 25 (yC (qC ct (T.bot) (by omega) (by omega)) ?_); rintro _ fI ⟨fJ, fK, fL, rfl, cv, fM, cw⟩; refine ⟨_, rfl, ?_⟩; have cx := cu.trans cw; refine q9 <| yd [26] [] .z <| yDe (nS ?_); refine ys <| qG (fun b => w.heap.size ≤ b) [48, 50] (by kernel_rfl) (fun fN fO bw => ?_); have cy := cv.ch bw iZ; have N := cx.step bw iZ; refine ydC [0, 1, 2, 3, 4, 6, 7, 8, 9, 12, 13, 14, 15, 18, 19, 20, 21, 24, 25, 26, 27, 30, 31, 32, 33, 34, 37, 38, 39, 40, 41, 44, 45, 46, 47] [] (fun u hu => (.l (qf hu (qf (qp N.ch) (hI.blk.c 88) id) (fun h => by have := hI.blk.lt; omega)) (.l (qf hu (qf (qp N.ch) (hI.blk.c 89) id) (fun h => by have := hI.blk.lt; omega)) (.l (qf hu (qf (qp N.ch) (hI.blk.c 90) id) (fun h => by have := hI.blk.lt; omega)) (.l (qf hu (qf (qp N.ch) (hI.blk.c 91) id) (fun h => by have := hI.blk.lt; omega)) (.l (qf hu (qf (qp N.ch) (hI.blk.c 95) id) (fun h => by have := hI.blk.lt; omega)) (.i 0 (2) (.l (qf hu (qf (qp N.ch) (hI.blk.c 92) id) (fun h => by have := hI.blk.lt; omega)) (.i 1 (2) (.l (qf hu (qf (qp N.ch) (hI.blk.c 93) id) (fun h => by have := hI.blk.lt; omega)) (.l (qf hu (qf (qp N.ch) (hI.blk.c 94) id) (fun h => by have := hI.blk.lt; omega)) .z))))))))))) <| yH 5 (yQ (qas T.wrap 1 _) fun fP az => ?_)
 have cz := cy.ch az iZ; have cA := N.step az iZ; refine qj az eZ <| yH 10 (yQ (qas T.origin 2 _) fun fQ aA => ?_); have cB := cz.ch aA iZ; have cC := cA.step aA iZ; refine qj aA eZ <| ydT [11] [] (Ch.refl _ _) (fun _ => (.q6 ((qah T.wrap 1) + (qah T.origin 2)) .z)) <| yH 16 (yQ (qas T.insert 4 _) fun fR aB => ?_); have cD := cB.ch aB iZ; have cE := cC.step aB iZ; refine qj aB eZ <| ydT [17] [] (Ch.refl _ _) (fun _ => (.q6 (((qah T.wrap 1) + (qah T.origin 2)) + (qah T.insert 4)) .z)) <| yH 22 (yQ (qas T.hidden 8 _) fun fS aC => ?_); have cF := cD.ch aC iZ; have cG := cE.step aC iZ; refine qj aC eZ <| ydT [23] [] (Ch.refl _ _) (fun _ => (.q6 ((((qah T.wrap 1) + (qah T.origin 2)) + (qah T.insert 4)) + (qah T.hidden 8)) .z)) <| yH 28 (yQ (qas T.alt 16 _) fun fT aD => ?_); have cH := cF.ch aD iZ; have cI := cG.step aD iZ; refine qj aD eZ <| ydT [29] [] (Ch.refl _ _) (fun _ => (.q6 (((((qah T.wrap 1) + (qah T.origin 2)) + (qah T.insert 4)) + (qah T.hidden 8)) + (qah T.alt 16)) .z)) <| yH 35 (yQ (qas T.draw0 32 _) fun fU aE => ?_); have cJ := cH.ch aE iZ; have cK := cI.step aE iZ; refine qj aE eZ <| ydT [36] [] (Ch.refl _ _) (fun _ => (.q6 ((((((qah T.wrap 1) + (qah T.origin 2)) + (qah T.insert 4)) + (qah T.hidden 8)) + (qah T.alt 16)) + (qah T.draw0 32)) .z)) <| yH 42 (yQ (qas T.draw1 64 _) fun fV aF => ?_); have cL := cJ.ch aF iZ; have cM := cK.step aF iZ; refine qj aF eZ <| ydT [43] [] (Ch.refl _ _) (fun _ => (.q6 (((((((qah T.wrap 1) + (qah T.origin 2)) + (qah T.insert 4)) + (qah T.hidden 8)) + (qah T.alt 16)) + (qah T.draw0 32)) + (qah T.draw1 64)) .z)) <| yK 48 (yQ (qas T.shift 128 _) fun fW bx => ?_)
 have cN := cL.ch bx iZ; have cO := cM.step bx iZ; refine q9 <| yd [49] [] (.q6 ((((((((qah T.wrap 1) + (qah T.origin 2)) + (qah T.insert 4)) + (qah T.hidden 8)) + (qah T.alt 16)) + (qah T.draw0 32)) + (qah T.draw1 64)) + (qah T.shift 128)) .z) <| yK 50 (yC (qC cN (((((((((qah T.wrap 1) + (qah T.origin 2)) + (qah T.insert 4)) + (qah T.hidden 8)) + (qah T.alt 16)) + (qah T.draw0 32)) + (qah T.draw1 64)) + (qah T.shift 128))) (by omega) (by omega)) ?_); rintro _ fX ⟨af, aG, aH, rfl, cP, fY, cQ⟩; refine ⟨_, rfl, ?_⟩; have cR := cO.trans cQ; refine q9 <| yd [51] [] .z <| yDe (nS ?_); refine yx 2 <| ys <| yx 1 <| q8 <| qT [0, 3, 4, 5, 6] (f' := [(0, pX t), (3, .slice (af.map at0) aG aH), (4, iX 0), (5, iX 1), (6, iX 0)]) <| qz (σ := Nat × Int × Int) (fun ⟨k, x, v⟩ => [(0, pX t), (3, .slice (af.map at0) aG aH), (4, iX x), (5, iX v), (6, iX ((k : Nat) : Int))]) (fun ⟨k, x, v⟩ u => k ≤ 60 ∧ x = ((qaB T.tabs k : Nat) : Int) ∧ v = ((2 ^ k : Nat) : Int) ∧ Own u tU8 1 af aG aH (u8s (((((([] : List Int) ++ qaA (T.grid.w).toNat) ++ qaA (T.grid.h).toNat) ++ qaA (T.top).toNat) ++ qaA (T.bot).toNat) ++ qaA (((((((((qah T.wrap 1) + (qah T.origin 2)) + (qah T.insert 4)) + (qah T.hidden 8)) + (qah T.alt 16)) + (qah T.draw0 32)) + (qah T.draw1 64)) + (qah T.shift 128))).toNat)) ∧ App w u none af) (fun ⟨k, x, v⟩ => 60 - k) (0, 0, 1) rfl ?_ ?_
 ·exact ⟨Nat.zero_le _, rfl, rfl, cP, cR⟩
 intro q fZ cS g0 cT; obtain ⟨k, x, v⟩ := q; obtain ⟨hk, hx, hv, bA, aI⟩ := cS; have g3 := qbN T.tabs k; have g4 : 2 ^ k ≤ 2 ^ 60 := Nat.pow_le_pow_right (by decide) hk; have g5 := qbn (T.tabs (((k : Nat) : Int) : Int).toNat) v (by omega); refine ys <| yx 2 <| yc (rL ((k : Nat) : Int) 60) (fun cU => ?_) fun cU => ?_
 ·refine yk <| ys <| q8 <| ysr <| yp 8 [] (.i ((k : Nat) : Int) (60) (.l (qf (qp aI.ch) (qgv hI.blk (((k : Nat) : Int)) (by omega) (by omega)) id) .z)) <| yo (yQ (qas (T.tabs (((k : Nat) : Int) : Int).toNat) v _) fun g6 bB => ?_); have cV := bA.ch bB iZ; have cW := aI.step bB iZ; refine yp 11 [] (.q6 (x + (qah (T.tabs (((k : Nat) : Int) : Int).toNat) v)) .z) <| ye <| q7 <| yp 3 [] (.q6 (v * 2) .z) <| yE (nB (nS ?_)); refine q7 <| yp 3 [] (.q6 (((k : Nat) : Int) + 1) .z) ?_; refine yE (fun a ha => cT (k + 1, x + qah (T.tabs (((k : Nat) : Int) : Int).toNat) v, v * 2) _ ⟨by omega, by rw [hx, hv, qaB]; unfold qah; rw [Int.toNat_natCast]; split <;> simp, by rw [hv, Nat.pow_succ]; simp, cV, cW⟩ (by show 60 - (k + 1) < 60 - k; omega) a (ha.kp [0, 3, 4, 5, 6]))
 have cX : x.toNat = qaB T.tabs 60 := by rw [hx, show k = 60 by omega]; exact Int.toNat_natCast _
 have g7 : 0 ≤ x ∧ x ≤ 9223372036854775807 := by omega
 refine qo (eS (qg (qd (nS ?_)))); refine ysr <| yq 2 <| yo (yC (qC bA (x) (by omega) (by omega)) ?_); rintro _ g8 ⟨g9, ga, gb, rfl, cY, gc, cZ⟩; refine ⟨_, rfl, ?_⟩; have d0 := aI.trans cZ; refine yz 4 <| ys <| qG (fun b => w.heap.size ≤ b) [15] (by kernel_rfl) (fun gd gf bC => ?_); have d1 := cY.ch bC iZ; have a7 := d0.step bC iZ; refine ydC [0, 1, 2, 3, 4, 6, 7, 8, 9, 11, 12, 13, 14] [] (fun u hu => (.a (qB hu (qB (qp a7.ch) (hI.blk.cs 2 8) id) (fun h => by have := hI.blk.lt; omega)) (.a (qB hu (qB (qp a7.ch) (hI.blk.cs 10 8) id) (fun h => by have := hI.blk.lt; omega)) (.a (qB hu (qB (qp a7.ch) (hI.blk.cs 18 8) id) (fun h => by have := hI.blk.lt; omega)) .z)))) <| yH 5 (yC (qel d1 T.cursor he.c (by omega)) ?_); rintro _ gg ⟨gh, gi, gj, rfl, d2, gk, bD⟩; refine ⟨_, rfl, ?_⟩; have bE := a7.trans bD; refine qj bD.ch ((fun i _ h => a7.new i h)) <| yH 10 (yC (qel d2 T.saved he.s (by omega)) ?_); rintro _ gl ⟨gm, gn, gp, rfl, d3, gq, bF⟩; refine ⟨_, rfl, ?_⟩; have d4 := bE.trans bF; refine qj bF.ch ((fun i _ h => bE.new i h)) <| yK 15 (yC (qel d3 T.away he.a (by omega)) ?_); rintro _ d5 ⟨aJ, ag, aK, rfl, d6, gr, d7⟩; refine ⟨_, rfl, ?_⟩; have aL := d4.trans d7; refine q9 <| yd [16] [] .z <| yDe (nS ?_); refine ys <| ysr <| yp 9 [] (.l (qf (qp aL.ch) (hI.blk.c 0) id) (.l (qf (qp aL.ch) (C.head.c 2) id) .z)) <| ye <| q8 ?_; obtain ⟨ah, bG⟩ : ∃ l : List Int, l = (((((((((([] : List Int) ++ qaA (T.grid.w).toNat) ++ qaA (T.grid.h).toNat) ++ qaA (T.top).toNat) ++ qaA (T.bot).toNat) ++ qaA (((((((((qah T.wrap 1) + (qah T.origin 2)) + (qah T.insert 4)) + (qah T.hidden 8)) + (qah T.alt 16)) + (qah T.draw0 32)) + (qah T.draw1 64)) + (qah T.shift 128))).toNat) ++ qaA (x).toNat) ++ qc5 T.cursor) ++ qc5 T.saved) ++ qc5 T.away) := ⟨_, rfl⟩
 have d8 : Own d5 tU8 1 aJ ag aK (u8s ah) := by rw [bG]; exact d6
 have d9 := he.g.1; rw [← C.lines, List.length_map] at d9; refine qT [0, 3, 135, 136, 137] (f' := [(0, pX t), (3, .slice (aJ.map at0) ag aK), (135, .slice (some ⟨r1, 0, none⟩) B.length bj), (136, iX ((B.length : Nat) : Int)), (137, iX 0)]) <| qz (σ := Nat × Option Nat × Nat × Nat) (fun ⟨d, O, J, Q⟩ => [(0, pX t), (3, .slice (O.map at0) J Q), (135, .slice (some ⟨r1, 0, none⟩) B.length bj), (136, iX ((B.length : Nat) : Int)), (137, iX ((d : Nat) : Int))]) (fun ⟨d, O, J, Q⟩ u => d ≤ B.length ∧ Own u tU8 1 O J Q (u8s (ah ++ ((B.map Row.l).take d).flatMap qU)) ∧ App w u none O ∧ J ≤ ag + 1800 * d) (fun ⟨d, O, J, Q⟩ => B.length - d) (0, aJ, ag, aK) rfl ?_ ?_
 ·exact ⟨Nat.zero_le _, (by rw [List.take_zero, List.flatMap_nil, List.append_nil]; exact d8), aL, Nat.le_refl _⟩
 intro p da db gs dc; obtain ⟨d, O, J, Q⟩ := p; obtain ⟨gu, aM, R, gv⟩ := db; refine yx 1 <| ys <| yc (rL ((d : Nat) : Int) ((B.length : Nat) : Int)) (fun dd => ?_) fun dd => ?_
 ·obtain ⟨K, bH, W⟩ := qek (rows := B) (k := d) (by omega); obtain ⟨gw, de⟩ := he.g.2 K.l (by rw [← C.lines]; exact List.mem_map_of_mem W); have gx := (C.line K W).2; refine yk <| ys <| q8 <| ysr <| yp 3 [] (.i ((d : Nat) : Int) (B.length) (.l (qeh (Ch.rd (qp R.ch) C.body.rd id) bH) .z)) <| ye <| q7 <| yq 2 <| yo (yC (qdr aM K.b K.n K.cap K.l (Ch.rd (qp R.ch) (C.line K W).1.rd id) (Nat.lt_of_lt_of_le (C.line K W).1.lt R.ch.size) (R.apart (C.line K W).1.lt (fun b e => by cases e)) (C.line K W).2 de (by omega)) ?_); rintro _ df ⟨bI, bJ, bK, rfl, dg, gy, dh⟩; refine ⟨_, rfl, ?_⟩; have di := R.trans dh; refine yq 4 <| yE (nB (nS ?_)); refine q7 <| yp 2 [] (.q6 (((d : Nat) : Int) + 1) .z) ?_; have dj : Own df tU8 1 bI bJ bK (u8s (ah ++ ((B.map Row.l).take (d + 1)).flatMap qU)) := by
   have h := dg; rw [qbK bH]; simp only [qay, qaX, List.flatMap_append, List.flatMap_cons, List.flatMap_nil, List.append_assoc, List.append_nil, Int.toNat_natCast] at h ⊢; exact h
  refine yE (fun a ha => dc (d + 1, bI, bJ, bK) _ ⟨by omega, dj, di, by omega⟩ (by show B.length - (d + 1) < B.length - d; omega) a (ha.kp [0, 3, 135, 136, 137]))
 have dk : d = (B.map Row.l).length := by rw [List.length_map]; omega
 rw [dk, List.take_length, C.lines] at aM; refine qo (eS (qg (qd (nS ?_)))); refine ys <| ysr <| yp 9 [] (.l (qf (qp R.ch) (hI.blk.c 1) id) (.l (qf (qp R.ch) (H.head.c 2) id) .z)) <| ye <| q8 ?_; obtain ⟨ai, bL⟩ : ∃ l : List Int, l = (ah ++ (T.grid.lines).flatMap qU) := ⟨_, rfl⟩
 have dl : Own da tU8 1 O J Q (u8s ai) := by rw [bL]; exact aM
 have dm := he.o.1; rw [← H.lines, List.length_map] at dm; refine qT [0, 3, 151, 152, 153] (f' := [(0, pX t), (3, .slice (O.map at0) J Q), (151, .slice (some ⟨r2, 0, none⟩) D.length bm), (152, iX ((D.length : Nat) : Int)), (153, iX 0)]) <| qz (σ := Nat × Option Nat × Nat × Nat) (fun ⟨y, X, Y, a8⟩ => [(0, pX t), (3, .slice (X.map at0) Y a8), (151, .slice (some ⟨r2, 0, none⟩) D.length bm), (152, iX ((D.length : Nat) : Int)), (153, iX ((y : Nat) : Int))]) (fun ⟨y, X, Y, a8⟩ u => y ≤ D.length ∧ Own u tU8 1 X Y a8 (u8s (ai ++ ((D.map Row.l).take y).flatMap qU)) ∧ App w u none X ∧ Y ≤ J + 1800 * y) (fun ⟨y, X, Y, a8⟩ => D.length - y) (0, O, J, Q) rfl ?_ ?_
 ·exact ⟨Nat.zero_le _, (by rw [List.take_zero, List.flatMap_nil, List.append_nil]; exact dl), R, Nat.le_refl _⟩
 intro p gz dn gA dp; obtain ⟨y, X, Y, a8⟩ := p; obtain ⟨gB, aN, U, gC⟩ := dn; refine yx 1 <| ys <| yc (rL ((y : Nat) : Int) ((D.length : Nat) : Int)) (fun dq => ?_) fun dq => ?_
 ·obtain ⟨L, bM, Z⟩ := qek (rows := D) (k := y) (by omega); obtain ⟨gD, dr⟩ := he.o.2 L.l (by rw [← H.lines]; exact List.mem_map_of_mem Z); have gE := (H.line L Z).2; refine yk <| ys <| q8 <| ysr <| yp 3 [] (.i ((y : Nat) : Int) (D.length) (.l (qeh (Ch.rd (qp U.ch) H.body.rd id) bM) .z)) <| ye <| q7 <| yq 2 <| yo (yC (qdr aN L.b L.n L.cap L.l (Ch.rd (qp U.ch) (H.line L Z).1.rd id) (Nat.lt_of_lt_of_le (H.line L Z).1.lt U.ch.size) (U.apart (H.line L Z).1.lt (fun b e => by cases e)) (H.line L Z).2 dr (by omega)) ?_); rintro _ ds ⟨bN, bO, bP, rfl, dt, gF, du⟩; refine ⟨_, rfl, ?_⟩; have dv := U.trans du; refine yq 4 <| yE (nB (nS ?_)); refine q7 <| yp 2 [] (.q6 (((y : Nat) : Int) + 1) .z) ?_; have dw : Own ds tU8 1 bN bO bP (u8s (ai ++ ((D.map Row.l).take (y + 1)).flatMap qU)) := by
   have h := dt; rw [qbK bM]; simp only [qay, qaX, List.flatMap_append, List.flatMap_cons, List.flatMap_nil, List.append_assoc, List.append_nil, Int.toNat_natCast] at h ⊢; exact h
  refine yE (fun a ha => dp (y + 1, bN, bO, bP) _ ⟨by omega, dw, dv, by omega⟩ (by show D.length - (y + 1) < D.length - y; omega) a (ha.kp [0, 3, 151, 152, 153]))
 have dx : y = (D.map Row.l).length := by rw [List.length_map]; omega
 rw [dx, List.take_length, H.lines] at aN; refine qo (eS (qg (qd (nS ?_)))); refine ysr <| yp 6 [] (.l (qf (qp U.ch) (hI.blk.c 97) id) .z) <| yo (yC (qC aN (((bn : Nat) : Int)) (by omega) (by omega)) ?_); rintro _ dy ⟨aj, a9, ak, rfl, dz, gG, dA⟩; refine ⟨_, rfl, ?_⟩; have bQ := U.trans dA; refine yz 8 <| ys <| ysr <| yf (f' := [(0, pX t), (3, .slice (aj.map at0) a9 ak), (171, .slice ba bn bc), (172, iX ((bn : Nat) : Int)), (173, iX 0)]) 6 [] [0, 3, 171, 172, 173] (.l (qf (qp bQ.ch) (hI.blk.c 97) id) .z) <| ye <| q8 ?_; obtain ⟨al, bR⟩ : ∃ l : List Int, l = ((ai ++ (T.other.lines).flatMap qU) ++ qaA (((bn : Nat) : Int)).toNat) := ⟨_, rfl⟩
 have dB : Own dy tU8 1 aj a9 ak (u8s al) := by rw [bR]; exact dz
 have dC := he.k.1; rw [← a6, List.length_map] at dC; have gH := I.len; refine qT [0, 3, 171, 172, 173] (f' := [(0, pX t), (3, .slice (aj.map at0) a9 ak), (171, .slice ba bn bc), (172, iX ((bn : Nat) : Int)), (173, iX 0)]) <| qz (σ := Nat × Option Nat × Nat × Nat) (fun ⟨A, a0, a1, aa⟩ => [(0, pX t), (3, .slice (a0.map at0) a1 aa), (171, .slice ba bn bc), (172, iX ((bn : Nat) : Int)), (173, iX ((A : Nat) : Int))]) (fun ⟨A, a0, a1, aa⟩ u => A ≤ bn ∧ Own u tU8 1 a0 a1 aa (u8s (al ++ ((ad.map Row.l).take A).flatMap (fun l => qaA l.length ++ qU l))) ∧ App w u none a0 ∧ a1 ≤ a9 + 1810 * A) (fun ⟨A, a0, a1, aa⟩ => bn - A) (0, aj, a9, ak) rfl ?_ ?_
 ·exact ⟨Nat.zero_le _, (by rw [List.take_zero, List.flatMap_nil, List.append_nil]; exact dB), bQ, Nat.le_refl _⟩
 intro p gI dD gJ dE; obtain ⟨A, a0, a1, aa⟩ := p; obtain ⟨gK, aO, aP, gL⟩ := dD; refine yx 1 <| ys <| yc (rL ((A : Nat) : Int) ((bn : Nat) : Int)) (fun dF => ?_) fun dF => ?_
 ·obtain ⟨bb, bo, rfl⟩ := qma hI.bz I (by omega); obtain ⟨G, bS, a2⟩ := qek (rows := ad) (k := A) (by omega); obtain ⟨gM, dG⟩ := he.k.2 G.l (by rw [← a6]; exact List.mem_map_of_mem a2); have dH := (I.line G a2).2; refine yk <| ys <| q8 <| ysr <| yp 3 [] (.i ((A : Nat) : Int) (bn) (.l (qeh (Ch.rd (qp aP.ch) I.rd id) bS) .z)) <| ye <| q7 <| yq 3 <| yo (yC (qC aO (((G.n : Nat) : Int)) (by omega) (by omega)) ?_); rintro _ gN ⟨gO, gP, gQ, rfl, dI, gR, dJ⟩; refine ⟨_, rfl, ?_⟩; have am := aP.trans dJ; refine yq 5 <| yo (yC (qdr dI G.b G.n G.cap G.l (Ch.rd (qp am.ch) (I.line G a2).1.rd id) (Nat.lt_of_lt_of_le (I.line G a2).1.lt am.ch.size) (am.apart (I.line G a2).1.lt (fun b e => by cases e)) (I.line G a2).2 dG (by omega)) ?_); rintro _ dK ⟨bT, bU, bV, rfl, dL, gS, dM⟩; refine ⟨_, rfl, ?_⟩; have dN := am.trans dM; refine yq 7 <| yE (nB (nS ?_)); refine q7 <| yp 2 [] (.q6 (((A : Nat) : Int) + 1) .z) ?_; have dO : Own dK tU8 1 bT bU bV (u8s (al ++ ((ad.map Row.l).take (A + 1)).flatMap (fun l => qaA l.length ++ qU l))) := by
   have h := dL; rw [qbK bS]; simp only [qay, qaX, List.flatMap_append, List.flatMap_cons, List.flatMap_nil, List.append_assoc, List.append_nil, Int.toNat_natCast] at h ⊢; rw [dH]; exact h
  refine yE (fun a ha => dE (A + 1, bT, bU, bV) _ ⟨by omega, dO, dN, by omega⟩ (by show bn - (A + 1) < bn - A; omega) a (ha.kp [0, 3, 171, 172, 173]))
 have dP : A = (ad.map Row.l).length := by rw [List.length_map]; omega
 rw [dP, List.take_length, a6] at aO; refine qo (eS (qg (qd (nS ?_)))); refine ys <| qG (fun b => w.heap.size ≤ b) [10] (by kernel_rfl) (fun gT gU bW => ?_); have dQ := aO.ch bW iZ; have an := aP.step bW iZ; refine ydC [0, 1, 2, 3, 4, 6, 7, 8, 9] [] (fun u hu => (.l (qf hu (qf (qp an.ch) (hI.blk.c 96) id) (fun h => by have := hI.blk.lt; omega)) (.l (qf hu (qf (qp an.ch) (hI.blk.c 107) id) (fun h => by have := hI.blk.lt; omega)) .z))) <| yH 5 (yC (qcy dQ T.title (by omega) (by omega)) ?_); rintro _ gV ⟨gW, gX, gY, rfl, dR, gZ, bX⟩; refine ⟨_, rfl, ?_⟩; have dS := an.trans bX; refine qj bX.ch ((fun i _ h => an.new i h)) <| yK 10 (yC (qcy dR T.reply (by omega) (by omega)) ?_); rintro _ h0 ⟨h3, h4, h5, rfl, bY, h6, dT⟩; refine ⟨_, rfl, ?_⟩; have aQ := dS.trans dT; refine q9 <| yd [11] [] .z <| yDe (nS ?_); refine ysr <| yp 4 [] (.a (qB (qp aQ.ch) (hI.blk.cs 98 9) id) .z) <| yo (yN [iX 0, uX 0, uX 0, uX 0, iX 0, oX, nX, oX, iX 0] 55 fun h7 E dU h8 dV bZ => ?_); have ao := zv (b := E) bY; have dW : w.heap.size ≤ E := by rw [dU]; exact aQ.ch.size
 have dX := bY.ch bZ iZ; have dY := aQ.step bZ iZ; refine yo (yT [iX T.parser.state, uX T.parser.utf.b0, uX T.parser.utf.b1, uX T.parser.utf.b2, iX T.parser.utf.n, .string T.parser.marks, .slice pa pn pc, .string T.parser.text, iX T.parser.within] dV fun h9 dZ c0 => ?_); have e0 := dX.ch c0 (fun b e (h : b = E) => ao b e h); have e1 := dY.step c0 (fun i hi (h : i = E) => by have := dW; omega); refine ye <| ys <| qG (fun b => ¬ b = E) [6] (by kernel_rfl) (fun hb hc aR => ?_); have e2 := e0.ch aR iZ; have e3 := e1.step aR iZ; have ap := dZ.ch aR id; refine ydC [0, 1, 2, 4, 5] [] (fun u hu => (.l (qf hu (ap.c 0) (fun h => h rfl)) (.l (qf hu (ap.c 8) (fun h => h rfl)) .z))) <| yH 3 (yC (qC e2 (T.parser.state) (by omega) (by omega)) ?_); rintro _ hd ⟨hf, hg, hh, rfl, e4, hl, aq⟩; refine ⟨_, rfl, ?_⟩; have c3 := aq.apart ap.lt ao; have e5 := e3.trans aq; have c4 := ap.ch aq.ch (fun h => ao _ h rfl); refine qj aq.ch ((fun i _ h e => ao i h e)) <| yK 6 (yC (qC e4 (T.parser.within) (by omega) (by omega)) ?_); rintro _ hm ⟨hn, ho, hp, rfl, e6, hq, aS⟩; refine ⟨_, rfl, ?_⟩; have c5 := aS.apart c4.lt c3; have e7 := e5.trans aS; have aT := c4.ch aS.ch (fun h => c3 _ h rfl); refine q9 <| yd [7] [] .z <| yDe (nS ?_); refine ysr <| yp 4 [] (.l (aT.c 4) .z) <| yo (yC (qC e6 (T.parser.utf.n) (by omega) (by omega)) ?_); rintro _ e8 ⟨aU, ar, aV, rfl, e9, hr, aW⟩; refine ⟨_, rfl, ?_⟩; have ea := aW.apart aT.lt c5; have eb := e7.trans aW; have ec := aT.ch aW.ch (fun h => c5 _ h rfl)
 refine yz 6 <| ys <| yx 1 <| q8 ?_; obtain ⟨a3, c6⟩ : ∃ l : List Int, l = ((((((al ++ (T.back).flatMap (fun l => qaA l.length ++ qU l)) ++ qde T.title) ++ qde T.reply) ++ qaA (T.parser.state).toNat) ++ qaA (T.parser.within).toNat) ++ qaA (T.parser.utf.n).toNat) := ⟨_, rfl⟩
 have ed : Own e8 tU8 1 aU ar aV (u8s a3) := by rw [c6]; exact e9
 refine qT [3, 13, 14] (f' := [(3, .slice (aU.map at0) ar aV), (13, pX E), (14, iX 0)]) <| qz (σ := Nat × Option Nat × Nat × Nat) (fun ⟨k, S, M, c1⟩ => [(3, .slice (S.map at0) M c1), (13, pX E), (14, iX ((k : Nat) : Int))]) (fun ⟨k, S, M, c1⟩ u => k ≤ T.parser.utf.n.toNat ∧ Own u tU8 1 S M c1 (u8s (a3 ++ T.parser.utf.pend.take k)) ∧ App w u none S ∧ M ≤ ar + k ∧ Blk u E [iX T.parser.state, uX T.parser.utf.b0, uX T.parser.utf.b1, uX T.parser.utf.b2, iX T.parser.utf.n, .string T.parser.marks, .slice pa pn pc, .string T.parser.text, iX T.parser.within] 55 ∧ ∀ b, S = some b → ¬ b = E) (fun ⟨k, S, M, c1⟩ => T.parser.utf.n.toNat - k) (0, aU, ar, aV) rfl ?_ ?_
 ·exact ⟨Nat.zero_le _, (by rw [List.take_zero, List.append_nil]; exact ed), eb, Nat.le_refl _, ec, ea⟩
 intro q hs ee ht ef; obtain ⟨k, S, M, c1⟩ := q; obtain ⟨hk, aX, aY, hw, au, ab⟩ := ee; refine ys <| ysr <| yp 6 [] (.l (au.c 4) .z) <| yw [216] (rL ((k : Nat) : Int) T.parser.utf.n) (fun eg => ?_) fun eg => ?_
 ·refine yz 9 <| yc (rL ((k : Nat) : Int) 3) (fun eh => ?_) fun eh => ?_
  ·refine yk <| ys <| q8 <| q7 <| yp 6 [] (.i ((k : Nat) : Int) (3) (.l (o := (1 + (((k : Nat) : Int)).toNat * 1)) (qiI (qh4 au) (k := k) (by omega)) .z)) <| yo (yB [uX (T.parser.utf.pend.getD k 0)] 5 1 fun hy aZ ei hz ej b3 => ?_); have hA := zv (b := aZ) aX; have hB : w.heap.size ≤ aZ := by rw [ei]; exact aY.ch.size
   have c7 := au.ch b3 id; have ek := aX.ch b3 iZ; have el := aY.step b3 iZ; refine yo (qai 5 1 1 S M c1 (u8s (a3 ++ T.parser.utf.pend.take k)) (some ⟨aZ, 0, none⟩) 1 1 [uX (T.parser.utf.pend.getD k 0)] (some 229) (M + 1) rfl (u8s ((a3 ++ T.parser.utf.pend.take k) ++ [(T.parser.utf.pend.getD k 0)])) (by first | (rw [u8s, u8s, List.map_append]; rfl) | simp only [u8s, List.map_append, List.map_cons, List.map_nil]) (by kernel_rfl) ek (Rd.all ej) rfl rfl (fun h => by cases h) (by constructor <;> first | omega | (simp only [maxLen]; omega)) ?_); intro em c8 c9 en eo hC ep; have b4 := App.of eo ep; have er := b4.apart c7.lt ab; have es := el.trans b4; have et := c7.ch b4.ch (fun h => ab _ h rfl); refine yq 9 <| yE (nB (nS ?_)); refine q7 <| yp 3 [] (.q6 (((k : Nat) : Int) + 1) .z) ?_; have eu : Own em tU8 1 c8 (M + 1) c9 (u8s (a3 ++ T.parser.utf.pend.take (k + 1))) := by
    have h := en; rw [qfg (by omega), ← List.append_assoc]; exact h
   refine yE (fun a ha => ef (k + 1, c8, (M + 1), c9) _ ⟨by omega, eu, es, by omega, et, er⟩ (by show T.parser.utf.n.toNat - (k + 1) < T.parser.utf.n.toNat - k; omega) a (ha.kp [3, 13, 14]))
  exfalso; omega
 refine yz 9 <| ycf <| qo (eS (qg (qd (nS ?_)))); refine ys <| qG (fun b => ¬ b = E) [7] (by kernel_rfl) (fun hD hE b5 => ?_); have av := au.ch b5 id; have ev := aX.ch b5 iZ; have ew := aY.step b5 iZ; refine ydC [0, 1, 2, 4, 5, 6] [] (fun u hu => (.l (qf hu (av.c 5) (fun h => h rfl)) (.l (qf hu (av.c 6) (fun h => h rfl)) .z))) <| yH 3 (yC (qcy ev T.parser.marks (by omega) (by omega)) ?_); rintro _ hF ⟨hG, hH, hJ, rfl, ex, hK, aw⟩; refine ⟨_, rfl, ?_⟩; have ca := aw.apart av.lt ab; have ey := ew.trans aw; have cb := av.ch aw.ch (fun h => ab _ h rfl); refine qj aw.ch ((fun i _ h e => ab i h e)) <| yK 7 (yC (qC ex (((pn : Nat) : Int)) (by omega) (by omega)) ?_); rintro _ ez ⟨b6, ax, b7, rfl, eA, hL, b8⟩; refine ⟨_, rfl, ?_⟩; have eB := b8.apart cb.lt ca; have eC := ey.trans b8; have cc := cb.ch b8.ch (fun h => ca _ h rfl); refine q9 <| yd [8] [] .z <| yDe (nS ?_); refine ys <| ysr <| yp 4 [] (.l (cc.c 6) .z) <| ye <| q8 ?_; obtain ⟨b9, cd⟩ : ∃ l : List Int, l = (((a3 ++ T.parser.utf.pend.take k) ++ qde T.parser.marks) ++ qaA (((pn : Nat) : Int)).toNat) := ⟨_, rfl⟩
 have eD : Own ez tU8 1 b6 ax b7 (u8s b9) := by rw [cd]; exact eA
 refine qT [3, 13, 239, 240, 241] (f' := [(3, .slice (b6.map at0) ax b7), (13, pX E), (239, .slice pa pn pc), (240, iX ((pn : Nat) : Int)), (241, iX 0)]) <| qz (σ := Nat × Option Nat × Nat × Nat) (fun ⟨j, V, n2, c2⟩ => [(3, .slice (V.map at0) n2 c2), (13, pX E), (239, .slice pa pn pc), (240, iX ((pn : Nat) : Int)), (241, iX ((j : Nat) : Int))]) (fun ⟨j, V, n2, c2⟩ u => j ≤ pn ∧ Own u tU8 1 V n2 c2 (u8s (b9 ++ (T.parser.params.take j).flatMap (fun x => qaA x.toNat))) ∧ App w u none V ∧ n2 ≤ ax + 10 * j ∧ Blk u E [iX T.parser.state, uX T.parser.utf.b0, uX T.parser.utf.b1, uX T.parser.utf.b2, iX T.parser.utf.n, .string T.parser.marks, .slice pa pn pc, .string T.parser.text, iX T.parser.within] 55 ∧ ∀ b, V = some b → ¬ b = E) (fun ⟨j, V, n2, c2⟩ => pn - j) (0, b6, ax, b7) rfl ?_ ?_
 ·exact ⟨Nat.zero_le _, (by rw [List.take_zero, List.flatMap_nil, List.append_nil]; exact eD), eC, Nat.le_refl _, cc, eB⟩
 intro q hM eE hN eF; obtain ⟨j, V, n2, c2⟩ := q; obtain ⟨hj, bd, bf, hO, ay, bg⟩ := eE; refine yx 1 <| ys <| yc (rL ((j : Nat) : Int) ((pn : Nat) : Int)) (fun eG => ?_) fun eG => ?_
 ·obtain ⟨pb, po, rfl⟩ := co.resolve_left (by omega); have hP := he.p.b _ (qdQ (l := T.parser.params) (k := j) (by omega)); refine yk <| ys <| q8 <| ysr <| yp 3 [] (.i ((j : Nat) : Int) (pn) (.l (o := (po + (((j : Nat) : Int)).toNat * 1)) (qdo (Ch.rd (qp bf.ch) hI.ps.1 id) (by omega)) .z)) <| ye <| q7 <| yq 2 <| yo (yC (qC bd ((T.parser.params.getD j 0)) (by omega) (by omega)) ?_); rintro _ eH ⟨ce, cf, cg, rfl, eI, hQ, bh⟩; refine ⟨_, rfl, ?_⟩; have eJ := bh.apart ay.lt bg; have eK := bf.trans bh; have eL := ay.ch bh.ch (fun h => bg _ h rfl); refine yq 4 <| yE (nB (nS ?_)); refine q7 <| yp 2 [] (.q6 (((j : Nat) : Int) + 1) .z) ?_; have eM : Own eH tU8 1 ce cf cg (u8s (b9 ++ (T.parser.params.take (j + 1)).flatMap (fun x => qaA x.toNat))) := by
   have h := eI; rw [qfg (by omega)]; simp only [List.flatMap_append, List.flatMap_cons, List.flatMap_nil, List.append_assoc, List.append_nil] at h ⊢; exact h
  refine yE (fun a ha => eF (j + 1, ce, cf, cg) _ ⟨by omega, eM, eK, by omega, eL, eJ⟩ (by show pn - (j + 1) < pn - j; omega) a (ha.kp [3, 13, 239, 240, 241]))
 have eN : j = T.parser.params.length := by omega
 rw [eN, List.take_length] at bd; refine qo (eS (qg (qd (nS ?_)))); refine ysr <| yp 3 [] (.l (ay.c 7) .z) <| yo (yC (qcy bd T.parser.text (by omega) (by omega)) ?_); rintro _ hR ⟨eO, eP, eQ, rfl, eR, hS, ci⟩; refine ⟨_, rfl, ?_⟩; have hT := ci.apart ay.lt bg; have cj := bf.trans ci; refine yz 5 <| qe (yR1 (.slice (eO.map at0) eP eQ) ?_); refine ⟨_, _, _, rfl, ?_, by omega, cj.new, qp cj.ch⟩; have h := eR; subst cd c6 bR bL bG; unfold qeg qfw qgV qet; rw [show qde (qm T.parser.utf.pend) = qaA T.parser.utf.n.toNat ++ T.parser.utf.pend by unfold qde; rw [qiE he.p.ub, ← qbX, qiE he.p.ub, cl], ← cn]; rw [show k = T.parser.utf.pend.length by omega, List.take_length] at h; simp only [cX, List.append_assoc, List.append_nil, List.nil_append, Int.toNat_natCast] at h ⊢; have ck := congrArg List.length a6; rw [List.length_map, I.len] at ck; rw [← ck, cm]; exact h
set_option maxHeartbeats 4000000 in
theorem bytes_any (p1 p2 : Int) (a : Option Addr) (n sc : Nat) (st : List Stp) (w : World) (hT : LT w) (h7 : gTop ≤ w.heap.size) (ha : n = 0 ∨ ∃ b off, a = some ⟨b, off, none⟩) (hn : st.length = n) (hst : Rd w a (flatS st)) : Calls Tryz.prog 3 [.agg #[iX p1, iX p2], .slice a n sc].toArray w fun e w' => e = .returned (.bool true) ∧ Ch (fun _ => False) w w' := by
 refine yA Tryz.func3 rfl <| ysr <| yo (yN [iX p1, iX p2] 22 fun R aa S ab U V => ?_); have ac := zn S (zr w); have s : Ch (fun _ => False) w R := zt (zr w) V iZ; refine yz 2 <| ys <| ysr <| yo (yQ (qmv _ (qy s hT (fun b h => h.elim)) (Nat.le_trans h7 (zs s))) fun W C => ?_); have k : Ch (fun _ => False) w W := zt s C iZ; have X := U.ch C id; refine yz 2 <| ycf <| yk <| ys <| ysr <| yq 1 <| yo (yQ (qmD a n sc st _ (qy k hT (fun b h => h.elim)) (Nat.le_trans h7 (zs k)) ha hn (hst.ch k iZ)) fun Y D => ?_); have g : Ch (fun _ => False) w Y := zt k D iZ; have Z := X.ch D id; refine yz 3 <| yc (rN (rY (qfX st))) (fun E => ?_) fun E => ?_
 ·refine yx 1 <| qe (rS (yR1 (.bool true) ?_)); exact ⟨rfl, g⟩
 have a0 := shortB_iff.1 E; refine yk <| ysr <| yp 2 [] (.a (Z.cs 0 2) .z) <| yo (yC (make_any p1 p2 a n sc st _ (qy g hT (fun b h => h.elim)) (Nat.le_trans h7 (zs g)) ha hn (hst.ch g iZ) ⟨by omega, a0.2⟩) ?_); rintro _ d ⟨ad, rfl, l⟩; refine ⟨_, rfl, ?_⟩; have a1 := l.ch; obtain ⟨ae, m⟩ := l.at (i := 0) rfl; have f := decOkN p1 p2 st st.length; have a2 := l.fine (i := 0) rfl; obtain ⟨T, a3⟩ : ∃ T, T = doN (qa3 zeroT (p1) (p2)) st st.length := ⟨_, rfl⟩
 rw [← a3] at m f a2 l; have af := byts_enc f; have ag := len_enc f; have ah := encI_ne T; have a4 : Ch (fun _ => False) w d := zt g a1 iZ; refine yz 4 <| ys <| yD [1, 2, 4, 5] fun F ai G => ?_; have a5 : Ch (fun _ => False) w F := zt a4 G iZ; have H : Ch (fun _ => False) d F := zt (zr d) G iZ; refine yd [0, 3] [] .z <| yK 1 (yC (qga (TermAt.ch m H iZ) f.enc) ?_); rintro _ c ⟨t, o, u, rfl, p, aj, ak, I⟩; refine ⟨_, rfl, ?_⟩; have J : Ch (fun _ => False) w c := zt a5 I iZ; have q : Ch (fun _ => False) d c := zt H I iZ; have v : (qeg T).length = o := qdV p; refine q9 <| qba 2 4 (by kernel_rfl) (by decide) ?_ ?_
 ·refine qb1 2 _ (by kernel_rfl) rfl (qaR (t.map at0) o u (qeg T) (some 16) (by kernel_rfl) ((Own.rd p).ch (zr c) iZ) v ?_); refine q9 <| yK 4 (yC (qgb (TermAt.ch m q iZ) f.enc) ?_); rintro _ r ⟨a6, K, a7, rfl, L, al, am, x⟩; refine ⟨_, rfl, ?_⟩; have a8 : Ch (fun _ => False) w r := zt J x iZ; have an : Ch (fun _ => False) d r := zt q x iZ; have ao : Ch (fun _ => False) c r := zt (zr c) x iZ; have a9 : (qeg T).length = K := qdV L; refine q9 <| yK 5 (qaR (a6.map at0) K a7 (qeg T) (some 19) (by kernel_rfl) ((Own.rd L).ch (zr r) iZ) a9 ?_); refine q9 <| yd [6, 7] [] .z <| yDe (nS ?_); refine qe (yR1 (.bool (((qm (qeg T))).toList == ((qm (qeg T))).toList)) ?_); exact ⟨congrArg Ending.returned (congrArg Value.bool (beq_self_eq_true _)), a8⟩
 refine qb1 4 _ (by kernel_rfl) rfl (yC (qgb (TermAt.ch m q iZ) f.enc) ?_); rintro _ j ⟨M, y, N, rfl, A, ap, aq, B⟩; refine ⟨_, rfl, ?_⟩; have O : Ch (fun _ => False) w j := zt J B iZ; have ar : Ch (fun _ => False) d j := zt q B iZ; have P : Ch (fun _ => False) c j := zt (zr c) B iZ; have Q : (qeg T).length = y := qdV A; refine q9 <| qba 2 5 (by kernel_rfl) (by decide) ?_ ?_
 ·refine qb1 2 _ (by kernel_rfl) rfl (qaR (t.map at0) o u (qeg T) (some 16) (by kernel_rfl) ((Own.rd p).ch P iZ) v ?_); refine q9 <| yK 5 (qaR (M.map at0) y N (qeg T) (some 19) (by kernel_rfl) ((Own.rd A).ch (zr j) iZ) Q ?_); refine q9 <| yd [6, 7] [] .z <| yDe (nS ?_); refine qe (yR1 (.bool (((qm (qeg T))).toList == ((qm (qeg T))).toList)) ?_); exact ⟨congrArg Ending.returned (congrArg Value.bool (beq_self_eq_true _)), O⟩
 refine qb1 5 _ (by kernel_rfl) rfl (qaR (M.map at0) y N (qeg T) (some 19) (by kernel_rfl) ((Own.rd A).ch (zr j) iZ) Q ?_); refine q9 <| yK 2 (qaR (t.map at0) o u (qeg T) (some 16) (by kernel_rfl) ((Own.rd p).ch P iZ) v ?_); refine q9 <| yd [6, 7] [] .z <| yDe (nS ?_); refine qe (yR1 (.bool (((qm (qeg T))).toList == ((qm (qeg T))).toList)) ?_); exact ⟨congrArg Ending.returned (congrArg Value.bool (beq_self_eq_true _)), O⟩
end Go.Proofs.YtclnfbmmaofpjaaGreatDoor.X
namespace Go.Proofs.YtclnfbmmaofpjaaGreatDoor
open Go.ChangeShapes Go.WideShapes Go.ChangeAt Go.RowKit
theorem qiQ : ownKnob Tryz.prog.godebug = none := by kernel_rfl
abbrev qkC : List (String × DataW Unit) := [("flipbook/glyph.wide", Rows.laid_flipbook_glyph_wide), ("flipbook/glyph.signs", Rows.laid_flipbook_glyph_signs), ("math/bits.deBruijn32tab", Rows.laid_math_bits_deBruijn32tab), ("math/bits.deBruijn64tab", Rows.laid_math_bits_deBruijn64tab), ("internal/strconv.uint64pow10", Rows.laid_internal_strconv_uint64pow10), ("unicode/utf8.acceptRanges", Rows.laid_unicode_utf8_acceptRanges), ("unicode/utf8.first", Rows.laid_unicode_utf8_first)]
theorem doorMet (os : Os) (args : Array Value) : laidMetH Tryz.prog qkC ((World.laidAll Tryz.prog os qkC).forCall (fun _ _ => 0) ⟨#[], args, []⟩).memory := by
 rw [MakeChecks.laidMetH_plain _ _ _ (by kernel_rfl)]; exact laidMet_laidAll _ (by kernel_rfl) (by kernel_rfl)
theorem qkD (os : Os) : (World.laidAll Tryz.prog os qkC).Shaped Tryz.prog := World.shaped_of_ZipB (by kernel_rfl) (by kernel_rfl)
theorem qbZ {W : World} {g n t : Nat} {k : IntKind} {e : TypeId} (he : Tryz.prog.underlying e = some (.int k)) (ce : Tryz.prog.cellsOf e = 1) {name : String} {cs : Array Value} {fuel : Nat} {l : List Int} {q : List MemPlace} (hg : Tryz.prog.globalNamed name = some g) (hv : W.var? Tryz.prog name = some cs)
  (hd : DataW.trod (H := Unit) (fun _ => ()) Tryz.prog W 0 (fun _ => true) false fuel t cs.toList = some (.agg (l.map fun n => .lit (.int k n)), q))
  (ht : Tryz.prog.underlying t = some (.array n e)) (hl : l.length = n) : ∀ r, r < l.length → W.cell? ⟨g, r, none⟩ = some (.int k (l.getD r 0)) := by
 obtain ⟨xs, m, _, ex, _, hlx, hel⟩ := DataW.trod_array ht hd
 intro r hr
 have hE := hel r (by omega)
 rw [ce, Nat.mul_one, List.getElem?_eq_getElem (by omega)] at hE
 obtain ⟨z, e1, e2, _⟩ := DataW.trod_int he hE
 have e3 : (xs.map (·.1)) = l.map fun n => .lit (.int k n) := (DataW.agg.inj (Prod.mk.inj ex).1).symm
 have e4 : (xs.map (·.1))[r]? = (l.map fun n => (DataW.lit (.int k n) : DataW Unit))[r]? := by rw [e3]
 rw [List.getElem?_map, List.getElem?_map, List.getElem?_eq_getElem (by omega : r < xs.length), List.getElem?_eq_getElem (by omega : r < l.length), e2] at e4
 have hz : z = l.getD r 0 := by
  simp only [Option.map_some, Option.some.injEq, DataW.lit.injEq, Lit.int.injEq, true_and] at e4
  rw [e4, List.getD, List.getElem?_eq_getElem (by omega : r < l.length)]; rfl
 rw [World.var?_cell hg hv r, ← hz]
 have : cs.toList[r]? = some (.int k z) := by
  have h0 : ((cs.toList.drop r).take 1)[0]? = some (.int k z) := by rw [e1]; rfl
  simpa using h0
 simpa using this
theorem qh9 {W : World} {g n t e u : Nat} {k : IntKind} {fs : Array Field} (hs : Tryz.prog.underlying e = some (.struct fs)) (h0 : ∃ f, fs[0]? = some f ∧ f.type = u ∧ f.offset = 0) (h1 : ∃ f, fs[1]? = some f ∧ f.type = u ∧ f.offset = 1) (hz : fs.size = 2) (hu : Tryz.prog.underlying u = some (.int k)) (ce : Tryz.prog.cellsOf e = 2) (cu : Tryz.prog.cellsOf u = 1)
  {name : String} {cs : Array Value} {fuel : Nat} {l : List (Int × Int)} {q : List MemPlace} (hg : Tryz.prog.globalNamed name = some g) (hv : W.var? Tryz.prog name = some cs)
  (hd : DataW.trod (H := Unit) (fun _ => ()) Tryz.prog W 0 (fun _ => true) false fuel t cs.toList = some (.agg (l.map fun p => .agg [.lit (.int k p.1), .lit (.int k p.2)]), q))
  (ht : Tryz.prog.underlying t = some (.array n e)) (hl : l.length = n) : ∀ r p, l[r]? = some p → W.cell? ⟨g, r * 2, none⟩ = some (.int k p.1) ∧ W.cell? ⟨g, r * 2 + 1, none⟩ = some (.int k p.2) := by
 obtain ⟨xs, m, _, ex, _, hlx, hel⟩ := DataW.trod_array ht hd
 intro r p hp
 have hr : r < l.length := (List.getElem?_eq_some_iff.1 hp).1
 have hE := hel r (by omega)
 rw [ce, List.getElem?_eq_getElem (by omega)] at hE
 have e3 : (xs.map (·.1)) = l.map fun p => .agg [.lit (.int k p.1), .lit (.int k p.2)] := (DataW.agg.inj (Prod.mk.inj ex).1).symm
 have e4 : (xs.map (·.1))[r]? = (l.map fun p => (DataW.agg [.lit (.int k p.1), .lit (.int k p.2)] : DataW Unit))[r]? := by rw [e3]
 rw [List.getElem?_map, List.getElem?_map, List.getElem?_eq_getElem (by omega : r < xs.length), hp] at e4
 simp only [Option.map_some, Option.some.injEq] at e4
 obtain ⟨ys, m2, _, ey, _, hly, hfy⟩ := DataW.trod_struct hs hE
 rw [ey] at e4
 have e5 := DataW.agg.inj e4
 obtain ⟨f0, hf0, t0, o0⟩ := h0
 obtain ⟨f1, hf1, t1, o1⟩ := h1
 have k0 := hfy 0 f0 hf0
 have k1 := hfy 1 f1 hf1
 rw [t0, o0, cu, List.drop_zero, List.take_take] at k0
 rw [t1, o1, cu] at k1
 have hy : ys.length = 2 := by rw [hly, hz]
 rw [List.getElem?_eq_getElem (by omega)] at k0 k1
 obtain ⟨z0, a0, b0, _⟩ := DataW.trod_int hu k0
 obtain ⟨z1, a1, b1, _⟩ := DataW.trod_int hu k1
 have c0 : (ys.map (·.1))[0]? = some (.lit (.int k p.1)) := by rw [e5]; rfl
 have c1 : (ys.map (·.1))[1]? = some (.lit (.int k p.2)) := by rw [e5]; rfl
 rw [List.getElem?_map, List.getElem?_eq_getElem (by omega), b0] at c0
 rw [List.getElem?_map, List.getElem?_eq_getElem (by omega), b1] at c1
 simp only [Option.map_some, Option.some.injEq, DataW.lit.injEq, Lit.int.injEq, true_and] at c0 c1
 subst c0 c1
 have d0 : cs.toList[r * 2]? = some (.int k p.1) := by
  have h0 : ((cs.toList.drop (r * 2)).take (min 1 2))[0]? = some (.int k p.1) := by rw [a0]; rfl
  simpa using h0
 have d1 : cs.toList[r * 2 + 1]? = some (.int k p.2) := by
  have h0 : ((((cs.toList.drop (r * 2)).take 2).drop 1).take 1)[0]? = some (.int k p.2) := by rw [a1]; rfl
  simpa using h0
 exact ⟨by rw [World.var?_cell hg hv]; simpa using d0, by rw [World.var?_cell hg hv]; simpa using d1⟩
def firstL : List Int := (List.range 256).map X.firstN
def accL : List (Int × Int) := (List.range 16).map X.accN
theorem qha {c : Nat} (h : c < 256) : firstL.length = 256 ∧ firstL.getD c 0 = X.firstN c := by
 have e : firstL.length = 256 := by simp [firstL]
 refine ⟨e, ?_⟩
 rw [List.getD, firstL, List.getElem?_map, List.getElem?_range h]; rfl
theorem acc_at {i : Nat} (h : i < 16) : accL[i]? = some (X.accN i) := by
 rw [accL, List.getElem?_map, List.getElem?_range h]; rfl
set_option maxRecDepth 100000 in
theorem qkE {W : World} (h : laidMetH Tryz.prog qkC W) : X.LT W := by
 rw [MakeChecks.laidMetH_plain _ _ _ (by kernel_rfl)] at h
 obtain ⟨ps, ⟨g0, t0, cs0, f0, p0, q0, hg0, ht0, hv0, hd0, ⟨g1, t1, cs1, f1, p1, q1, hg1, ht1, hv1, hd1, ⟨g2, t2, cs2, f2, p2, q2, hg2, ht2, hv2, hd2, ⟨g3, t3, cs3, f3, p3, q3, hg3, ht3, hv3, hd3, ⟨g4, t4, cs4, f4, p4, q4, hg4, ht4, hv4, hd4, ⟨g5, t5, cs5, f5, p5, q5, hg5, ht5, hv5, hd5, ⟨g6, t6, cs6, f6, p6, q6, hg6, ht6, hv6, hd6, _, _⟩, _⟩, _⟩, _⟩, _⟩, _⟩, _⟩, _, _⟩ := h
 obtain rfl := Option.some.inj ((show Tryz.prog.globalNamed "flipbook/glyph.wide" = some 0 by kernel_rfl).symm.trans hg0)
 obtain rfl := Option.some.inj ((show Tryz.prog.globalNamed "flipbook/glyph.signs" = some 3 by kernel_rfl).symm.trans hg1)
 obtain rfl := Option.some.inj ((show Tryz.prog.globalNamed "internal/strconv.uint64pow10" = some 4 by kernel_rfl).symm.trans hg4)
 obtain rfl := Option.some.inj ((show Tryz.prog.globalNamed "unicode/utf8.acceptRanges" = some 2 by kernel_rfl).symm.trans hg5)
 obtain rfl := Option.some.inj ((show Tryz.prog.globalNamed "unicode/utf8.first" = some 1 by kernel_rfl).symm.trans hg6)
 obtain rfl := Option.some.inj ((show (Tryz.prog.globals[0]?).map (·.type) = some 151 by kernel_rfl).symm.trans ht0)
 obtain rfl := Option.some.inj ((show (Tryz.prog.globals[3]?).map (·.type) = some 167 by kernel_rfl).symm.trans ht1)
 obtain rfl := Option.some.inj ((show (Tryz.prog.globals[4]?).map (·.type) = some 187 by kernel_rfl).symm.trans ht4)
 obtain rfl := Option.some.inj ((show (Tryz.prog.globals[2]?).map (·.type) = some 155 by kernel_rfl).symm.trans ht5)
 obtain rfl := Option.some.inj ((show (Tryz.prog.globals[1]?).map (·.type) = some 152 by kernel_rfl).symm.trans ht6)
 have z6 : Rows.laid_unicode_utf8_first = .agg (firstL.map fun n => .lit (.int .u8 n)) := by kernel_rfl
 rw [z6] at hd6
 have z5 : (Rows.laid_unicode_utf8_acceptRanges : DataW Unit) = .agg (accL.map fun p => .agg [.lit (.int .u8 p.1), .lit (.int .u8 p.2)]) := by kernel_rfl
 rw [z5] at hd5
 refine ⟨⟨qbZ (k := .i32) (e := 21) (by kernel_rfl) (by kernel_rfl) hg0 hv0 hd0 (by kernel_rfl) rfl, qbZ (k := .i32) (e := 21) (by kernel_rfl) (by kernel_rfl) hg1 hv1 hd1 (by kernel_rfl) rfl⟩, ⟨fun c hc => ?_, fun i hi => ?_⟩, fun i hi => ?_⟩
 ·have := qbZ (k := .u8) (e := 5) (by kernel_rfl) (by kernel_rfl) hg6 hv6 hd6 (by kernel_rfl) (qha hc).1 c (by rw [(qha hc).1]; exact hc)
  rw [(qha hc).2] at this; exact this
 ·exact qh9 (k := .u8) (e := 154) (u := 5) Tryz.underlying154 ⟨_, rfl, rfl, rfl⟩ ⟨_, rfl, rfl, rfl⟩ rfl Tryz.underlying5 (by kernel_rfl) (by kernel_rfl) hg5 hv5 hd5 Tryz.underlying155 (by simp [accL]) i _ (acc_at hi)
 ·have h1 := qbZ (k := .u64) (e := 61) (l := [1, 10, 100, 1000, 10000, 100000, 1000000, 10000000, 100000000, 1000000000, 10000000000, 100000000000, 1000000000000, 10000000000000, 100000000000000, 1000000000000000, 10000000000000000, 100000000000000000, 1000000000000000000, 10000000000000000000]) (by kernel_rfl) (by kernel_rfl) hg4 hv4 hd4 (by kernel_rfl) rfl i (Nat.lt_of_lt_of_le hi (by decide))
  rw [h1]
  obtain rfl | rfl | rfl : i = 0 ∨ i = 1 ∨ i = 2 := by omega
  all_goals rfl
end Go.Proofs.YtclnfbmmaofpjaaGreatDoor
namespace Go.Proofs.YtclnfbmmaofpjaaGreatDoor
open Go.ChangeShapes Go.WideShapes Go.ChangeAt Go.RowKit
section
variable {H : Type} {enc : TypeId × Value → H} {P : Program} {w : World} {base : Nat} {spare : Nat → Bool} {held : Bool}
theorem qdY {α : Type} {l : List α} {i : Nat} {x : α} (h : (l.drop i).take 1 = [x]) : l[i]? = some x := by
 have h0 : ((l.drop i).take 1)[0]? = some x := by rw [h]; rfl
 simpa using h0
theorem qmF {r : Reach} {b0 : Nat} {t e : TypeId} {k : IntKind} {v : Value} {d : DataW H} {ps : List MemPlace} (ht : P.underlying t = some (.array 2 e)) (he : P.underlying e = some (.int k)) (ce : P.cellsOf e = 1) (ct : P.cellsOf t = 2)
  (hval : Value.okWide P w r b0 t v) (hd : DataW.Trod enc P w base spare held t v d ps) :
  ∃ a b, v = .agg #[.int k a, .int k b] ∧ d = .agg [.lit (.int k a), .lit (.int k b)] ∧ ps = [] ∧ (Lit.int k a).wf = true ∧ (Lit.int k b).wf = true := by
 obtain ⟨cs, rfl, hs, _⟩ : ∃ cs, v = .agg cs ∧ cs.size = 2 ∧ True := by
  unfold Value.okWide at hval
  rw [ht] at hval
  obtain ⟨cs, h1, h2, _⟩ := hval
  exact ⟨cs, h1, by rw [h2, ct], trivial⟩
 obtain ⟨fuel, hf⟩ := hd
 obtain ⟨xs, m, _, ex, _, hlx, hel⟩ := DataW.trod_array ht hf
 have k0 := hel 0 (by omega)
 have k1 := hel 1 (by omega)
 rw [ce, List.getElem?_eq_getElem (by omega)] at k0 k1
 obtain ⟨a, a0, b0, w0⟩ := DataW.trod_int he k0
 obtain ⟨b, a1, b1, w1⟩ := DataW.trod_int he k1
 have c0 := qdY a0
 have c1 := qdY a1
 simp only [Value.cells, Nat.zero_mul, Nat.one_mul] at c0 c1
 have hcs : cs = #[.int k a, .int k b] := by
  apply Array.ext'
  match hl : cs.toList, (show cs.toList.length = 2 by simpa using hs) with
  | [x, y], _ =>
   rw [hl] at c0 c1
   simp at c0 c1
   rw [c0, c1]
 have hxs : xs = [(.lit (.int k a), []), (.lit (.int k b), [])] := by
  match xs, hlx with
  | [x, y], _ =>
   simp at b0 b1
   rw [b0, b1]
 subst hcs hxs
 have e1 := (Prod.mk.inj ex)
 exact ⟨a, b, rfl, by simpa using e1.1, by simpa using e1.2, w0, w1⟩
theorem qmG {t e : TypeId} {k : IntKind} {a b : Int} (ht : P.underlying t = some (.array 2 e)) (he : P.underlying e = some (.int k)) (ce : P.cellsOf e = 1) (ct : P.cellsOf t = 2) (wa : (Lit.int k a).wf = true) (wb : (Lit.int k b).wf = true) :
  DataW.Trod enc P w base spare held t (.agg #[.int k a, .int k b]) (.agg [.lit (.int k a), .lit (.int k b)]) [] :=
 ⟨2, by simp [DataW.trod, Value.cells, ht, he, ce, ct, wa, wb, List.range_succ]⟩
end
theorem qiR {w w' : World} (h : X.Ch (fun _ => False) w w') : Below w.heap.size w w' := ⟨h.os, h.tape, h.output, h.size, fun k hk => h.block k hk id⟩
theorem qiS {W : World} (h : laidMetH Tryz.prog qkC W) : X.gTop ≤ W.heap.size := by
 rw [MakeChecks.laidMetH_plain _ _ _ (by kernel_rfl)] at h
 obtain ⟨ps, ⟨g0, t0, cs0, f0, p0, q0, hg0, ht0, hv0, hd0, ⟨g1, t1, cs1, f1, p1, q1, hg1, ht1, hv1, hd1, ⟨g2, t2, cs2, f2, p2, q2, hg2, ht2, hv2, hd2, ⟨g3, t3, cs3, f3, p3, q3, hg3, ht3, hv3, hd3, _, _⟩, _⟩, _⟩, _⟩, _, _⟩ := h
 obtain rfl := Option.some.inj ((show Tryz.prog.globalNamed "math/bits.deBruijn64tab" = some 6 by kernel_rfl).symm.trans hg3)
 obtain rfl := Option.some.inj ((show (Tryz.prog.globals[6]?).map (·.type) = some 193 by kernel_rfl).symm.trans ht3)
 obtain ⟨xs, m, _, _, hlen, _⟩ := DataW.trod_array Tryz.underlying193 hd3
 have hl : cs3.toList.length = 64 := hlen.trans (by kernel_rfl)
 have hc := World.var?_cell hg3 hv3 0
 have : ∃ v, cs3[0]? = some v := ⟨_, Array.getElem?_eq_getElem (by simpa using (show 0 < cs3.toList.length by omega))⟩
 obtain ⟨v, hv⟩ := this
 rw [hv] at hc
 have := X.cell_lt hc
 show 7 ≤ _
 omega
end Go.Proofs.YtclnfbmmaofpjaaGreatDoor
namespace Go.Proofs.YtclnfbmmaofpjaaGreatDoor
open Go.ChangeShapes Go.WideShapes Go.ChangeAt Go.RowKit
section
variable {H : Type} {enc : TypeId × Value → H} {w : World} {base : Nat}
theorem three_of {cs : List Value} {a b c : Value} (hl : cs.length = 3) (h0 : cs[0]? = some a) (h1 : cs[1]? = some b) (h2 : cs[2]? = some c) : cs = [a, b, c] := by
 match cs, hl with
 | [u0, u1, u2], _ =>
  simp only [List.getElem?_cons_zero, List.getElem?_cons_succ, Option.some.injEq] at h0 h1 h2
  rw [h0, h1, h2]
set_option maxRecDepth 100000 in
theorem qkF {spare : Nat → Bool} {held : Bool} {n : Nat} {cs : List Value} {x : DataW H × List MemPlace} (h : DataW.trod enc Tryz.prog w base spare held n 37 cs = some x) (hl : cs.length = 3) : ∃ y : X.Stp, cs = y.vals := by
 obtain ⟨xs, m, _, _, _, hlx, hf⟩ := DataW.trod_struct Tryz.underlying37 h
 have c1 : Tryz.prog.cellsOf 9 = 1 := by kernel_rfl
 have c2 : Tryz.prog.cellsOf 3 = 1 := by kernel_rfl
 have k0 : DataW.trod enc Tryz.prog w base spare held m 9 ((cs.drop 0).take (Tryz.prog.cellsOf 9)) = xs[0]? := hf 0 _ rfl
 have k1 : DataW.trod enc Tryz.prog w base spare held m 3 ((cs.drop 1).take (Tryz.prog.cellsOf 3)) = xs[1]? := hf 1 _ rfl
 have k2 : DataW.trod enc Tryz.prog w base spare held m 3 ((cs.drop 2).take (Tryz.prog.cellsOf 3)) = xs[2]? := hf 2 _ rfl
 rw [c1] at k0
 rw [c2] at k1 k2
 have hlx3 : xs.length = 3 := hlx
 rw [List.getElem?_eq_getElem (by omega)] at k0 k1 k2
 obtain ⟨s, a0, _⟩ := DataW.trod_string Tryz.underlying9 k0
 obtain ⟨a, a1, _⟩ := DataW.trod_int Tryz.underlying3 k1
 obtain ⟨b, a2, _⟩ := DataW.trod_int Tryz.underlying3 k2
 have g0 := qdY a0
 have g1 := qdY a1
 have g2 := qdY a2
 exact ⟨⟨s, a, b⟩, three_of hl g0 g1 g2⟩
set_option maxRecDepth 100000 in
theorem qkG {r : Reach} {b0 : Nat} {t : TypeId} {v : Value} {d : DataW H} {ps : List MemPlace} (ht : Tryz.prog.underlying t = some (.slice 37)) (hval : Value.okWide Tryz.prog w r b0 t v) (hd : DataW.Trod enc Tryz.prog w base (fun _ => true) true t v d ps) :
  ∃ (a : Option Addr) (n sc : Nat) (st : List X.Stp), v = .slice a n sc ∧ (n = 0 ∨ ∃ b off, a = some ⟨b, off, none⟩) ∧ st.length = n ∧ X.Rd w a (X.flatS st) := by
 obtain ⟨a0, n0, c0, rfl⟩ := okWide_slice ht hval
 obtain ⟨fuel, hf⟩ := hd
 have ce : Tryz.prog.cellsOf 37 = 3 := by kernel_rfl
 rcases Deep.open_slice ht hf with ⟨h0, _⟩ | ⟨a, len, cap, m, n, D, Pl, hv, _, hl, _, hm, _, hx⟩
 ·have h1 : Value.slice a0 n0 c0 = .slice none 0 0 := List.head_eq_of_cons_eq h0
  exact ⟨none, 0, 0, [], h1, .inl rfl, rfl, X.Rd.nil _ _⟩
 ·have h1 : Value.slice a0 n0 c0 = .slice (some a) len cap := List.head_eq_of_cons_eq hv
  have hm' : m = cap := by simpa using hm
  rw [ce] at hx
  have each : ∀ i, i < len → ∃ y : X.Stp, w.cells? base (a.add (i * 3)) 3 = some y.vals := fun i hi => by
   obtain ⟨cs, e1, e2⟩ := hx i (by omega)
   obtain ⟨_, hlen, _⟩ := World.cells?_some e1
   obtain ⟨y, rfl⟩ := qkF e2 hlen
   exact ⟨y, e1⟩
  have : Inhabited X.Stp := ⟨X.stp0⟩
  obtain ⟨f, hfy⟩ := Deep.choose_lt each
  refine ⟨some a, len, cap, (List.range len).map f, h1, ?_, by simp, fun e => (by cases e), fun ad e j u hj => ?_⟩
  ·rcases Nat.eq_zero_or_pos len with h0 | h0
   ·exact .inl h0
   ·right
    obtain ⟨_, _, hc⟩ := World.cells?_some (hfy 0 h0)
    have h2 := hc 0 (by omega)
    rw [Deep.add_add] at h2
    have h3 : w.cell? a = some (.string (f 0).text) := h2
    obtain ⟨b, off, sp⟩ := a
    cases sp with
    | none => exact ⟨b, off, rfl⟩
    | some q =>
     unfold World.cell? at h3
     split at h3
     ·simp at h3
     ·cases h3
  ·obtain rfl := Option.some.inj e
   have hlen : (X.flatS ((List.range len).map f)).length = len * 3 := by rw [X.flatS_len]; simp
   have hlt : j < len * 3 := by
    rw [← hlen]
    exact (List.getElem?_eq_some_iff.1 hj).1
   have hi : j / 3 < len := by omega
   have hr : j % 3 < 3 := by omega
   have hjj : j = j / 3 * 3 + j % 3 := by omega
   have h2 := X.flatS_get ((List.range len).map f) (j / 3) (j % 3) (by simpa using hi) hr
   rw [← hjj, hj] at h2
   have hg : X.gs ((List.range len).map f) (j / 3) = f (j / 3) := by simp [X.gs, List.getD, hi]
   rw [hg] at h2
   obtain ⟨_, _, hc⟩ := World.cells?_some (hfy (j / 3) hi)
   have h3 := hc (j % 3) hr
   rw [Deep.add_add, ← hjj] at h3
   rw [h3, ← h2]
end
end Go.Proofs.YtclnfbmmaofpjaaGreatDoor
