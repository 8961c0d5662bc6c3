/- What the proof of StateCopies needs, part 6: the walks of the program's functions and the plain laws about them. -/
import Derived.Test.YtclnfbmmaofpjaaGreatDoorQL5
import Derived.Test.YtclnfbmmaofpjaaGreatDoorRows
import Derived.ProofKit
import Derived.OpenShut
import Derived.ChangeArms
import Derived.LaidMore
import Derived.Lay
import Derived.Stop.Joined
import Derived.Below
import Derived.SevenTiedAt
import Derived.Deep.Slices
import Derived.Carry
set_option linter.unusedSimpArgs false
set_option linter.unusedVariables false
namespace Go.Proofs.YtclnfbmmaofpjaaGreatDoor.X
open Go Go.RowKit Go.Proofs.YtclnfbmmaofpjaaGreatDoor
theorem qmW (k : IntKind) (hk : k = .i64 ∨ k = .u64) {x : Int} (h0 : 0 ≤ x) (h1 : x < 9223372036854775808) (i : Nat) (hi : i < 64) : ((ql .and k (Int.fdiv x (2 ^ min ((i : Nat) : Int).toNat (IntKind.bits k))) 1 : Int) == 1) = qdG x.toNat i := by
 have := bit_eq k hk (n := x.toNat) (i := i) (by omega) hi; rwa [Int.toNat_of_nonneg h0] at this
theorem i63 {x : Int} (h : x ≤ 9223372036854775807) : x < 9223372036854775808 := by omega
theorem qcR {x : Int} (h0 : 0 ≤ x) (h1 : x < 9223372036854775808) (I : Int) (i : Nat) (hi : i < 64) (hI : I = ((i : Nat) : Int)) : ((ql .and .i64 (Int.fdiv x (2 ^ min I.toNat (IntKind.bits .i64))) 1 : Int) == 1) = qdG x.toNat i := by
 subst hI; exact qmW .i64 (.inl rfl) h0 h1 i hi
theorem qkP (tb : Nat) : qeo tb 0 = qgz 7 := by funext i; simp [qeo]
def qep (w h top bot n tb : Int) (k : Nat) : TS := { qgW w h top bot n tb with tabs := qeo tb.toNat k }
theorem TermIn.eqT {w : World} {t g o : Nat} {ba : Option Addr} {bn bc : Nat} {pa : Option Addr} {pn pc : Nat} {T T' : TS} {F F1 F2 FB FP : Nat → Prop} (h : TermIn w t g o ba bn bc pa pn pc T F F1 F2 FB FP) (e : T = T') : TermIn w t g o ba bn bc pa pn pc T' F F1 F2 FB FP := e ▸ h
def flK (w h top bot n : Int) (k : Nat) : TS := { qa7 zeroT w h with top := top, bot := bot, wrap := if 0 < k then qdG n.toNat 0 else true, origin := if 1 < k then qdG n.toNat 1 else false, insert := if 2 < k then qdG n.toNat 2 else false, hidden := if 3 < k then qdG n.toNat 3 else false, alt := if 4 < k then qdG n.toNat 4 else false, draw0 := if 5 < k then qdG n.toNat 5 else false, draw1 := if 6 < k then qdG n.toNat 6 else false, shift := if 7 < k then qdG n.toNat 7 else false }
theorem flK_end (w h top bot n tb : Int) : flK w h top bot n 8 = qep w h top bot n tb 0 := by
 unfold qep; rw [qkP]; rfl
theorem qkQ {w h top bot n tb : Int} {k : Nat} {v : Bool} (hv : v = qdG tb.toNat k) : ({ qep w h top bot n tb k with tabs := fun i => if i = ((k : Nat) : Int).toNat then v else (qep w h top bot n tb k).tabs i } : TS) = qep w h top bot n tb (k + 1) := by
 have : (fun i => if i = ((k : Nat) : Int).toNat then v else qeo tb.toNat k i) = qeo tb.toNat (k + 1) := by
  funext i; rw [Int.toNat_natCast, hv]; unfold qeo; by_cases h : i = k
  ·subst h; rw [if_pos rfl, if_pos (Nat.lt_succ_self i)]
  rw [if_neg h]; by_cases a : i < k
  ·rw [if_pos a, if_pos (by omega)]
  rw [if_neg a, if_neg (by omega)]
 show ({ qgW w h top bot n tb with tabs := fun i => if i = ((k : Nat) : Int).toNat then v else qeo tb.toNat k i } : TS) = _; rw [this]; rfl
set_option maxHeartbeats 4000000 in
theorem qmX {sr rv D : Nat} {s0 s1 : RS} {ot : Option TS} {w : World} (hS : SrIn w sr rv D true s0) (hT : LT w) (hr7 : gTop ≤ rv) (hs7 : gTop ≤ sr) (hH : qgX s0 = (ot, s1)) : Calls Tryz.prog 32 [pX sr].toArray w fun e w' =>
 ∃ v, e = .returned v ∧ SrIn w' sr rv D true s1 ∧ Ch (srB sr rv) w w' ∧ ((ot = none ∧ v = .pointer none) ∨ ∃ t T, ot = some T ∧ v = pX t ∧ TermAt w' t T (fun b => w.heap.size ≤ b ∧ b < w'.heap.size)) := by
 refine yA Tryz.func32 rfl <| yx 1 <| ys <| qY (· = rv) [9] (by kernel_rfl) (fun aR cV Z => ?_); have aS : Ch (srB sr rv) w aR := zt (Ch.refl (srB sr rv) w) Z eZ; have a0 := hS.blk.ch Z id; have aT := hS.rd.ch Z id id; refine ydC [0, 1, 2, 3, 5, 6, 7, 8] [] (fun u hu => (.l (qg hu (a0.c 0) hS.ne) (.l (qg hu (a0.c 0) hS.ne) .z))) ?_; obtain ⟨j, al, I⟩ : ∃ x s', qO (61) s0 = (x, s') := ⟨_, _, rfl⟩
 have am := qa3 (lim := 61) (s := s0); rw [I] at am; dsimp only at am; refine yH 4 (yQ (qW (lim := 61) aT I (by omega)) ?_); rintro aU ⟨aV, a1⟩; have aW : Ch (srB sr rv) w aU := zt aS a1 (fun _ _ h => .inr h); have aX := a0.ch a1 hS.ne; refine qo a1 iZ ?_; obtain ⟨f, an, J⟩ : ∃ x s', qO (61) al = (x, s') := ⟨_, _, rfl⟩
 have ao := qa3 (lim := 61) (s := al); rw [J] at ao; dsimp only at ao; refine yK 9 (yQ (qW (lim := 61) aV J (by omega)) ?_); rintro aY ⟨aZ, ap⟩; have b0 : Ch (srB sr rv) w aY := zt aW ap (fun _ _ h => .inr h); have b1 := aX.ch ap hS.ne; refine q9 <| yd [10, 11] [] .z <| yDe (nS ?_); refine ys <| qY (· = rv) [13] (by kernel_rfl) (fun b2 cW a2 => ?_); have b3 : Ch (srB sr rv) w b2 := zt b0 a2 eZ; have a3 := b1.ch a2 id; have b4 := aZ.ch a2 id id; refine ydC [0, 1, 2, 3, 4, 5, 7, 8, 9, 10, 11, 12] [] (fun u hu => (.l (qg hu (a3.c 0) hS.ne) (.q6 (f + 1) (.l (qg hu (a3.c 0) hS.ne) (.q6 (f + 1) .z))))) ?_; obtain ⟨m, aq, K⟩ : ∃ x s', qO ((f + 1)) an = (x, s') := ⟨_, _, rfl⟩
 have ar := qa3 (lim := (f + 1)) (s := an); rw [K] at ar; dsimp only at ar; refine yH 6 (yQ (qW (lim := (f + 1)) b4 K (by omega)) ?_); rintro b5 ⟨b6, a4⟩; have b7 : Ch (srB sr rv) w b5 := zt b3 a4 (fun _ _ h => .inr h); have b8 := a3.ch a4 hS.ne; refine qo a4 iZ ?_; obtain ⟨n, au, L⟩ : ∃ x s', qO ((f + 1)) aq = (x, s') := ⟨_, _, rfl⟩
 have av := qa3 (lim := (f + 1)) (s := aq); rw [L] at av; dsimp only at av; refine yK 13 (yQ (qW (lim := (f + 1)) b6 L (by omega)) ?_); rintro b9 ⟨bb, aw⟩; have bd : Ch (srB sr rv) w b9 := zt b7 aw (fun _ _ h => .inr h); have bf := b8.ch aw hS.ne; refine q9 <| yd [14, 15] [] .z <| yDe (nS ?_); refine ys <| qY (· = rv) [9] (by kernel_rfl) (fun bg cX a5 => ?_); have bh : Ch (srB sr rv) w bg := zt bd a5 eZ; have a6 := bf.ch a5 id; have bi := bb.ch a5 id id; refine ydC [0, 1, 2, 3, 5, 6, 7, 8] [] (fun u hu => (.l (qg hu (a6.c 0) hS.ne) (.l (qg hu (a6.c 0) hS.ne) .z))) ?_; obtain ⟨d, ax, M⟩ : ∃ x s', qO (256) au = (x, s') := ⟨_, _, rfl⟩
 have r := qa3 (lim := 256) (s := au); rw [M] at r; dsimp only at r; refine yH 4 (yQ (qW (lim := 256) bi M (by omega)) ?_); rintro bj ⟨bk, a7⟩; have bl : Ch (srB sr rv) w bj := zt bh a7 (fun _ _ h => .inr h); have bm := a6.ch a7 hS.ne; refine qo a7 iZ ?_; obtain ⟨y, a8, N⟩ : ∃ x s', qO (1152921504606846976) ax = (x, s') := ⟨_, _, rfl⟩
 have U := qa3 (lim := 1152921504606846976) (s := ax); rw [N] at U; dsimp only at U; refine yK 9 (yQ (qW (lim := 1152921504606846976) bk N (by omega)) ?_); rintro bo ⟨ay, az⟩; have bp : Ch (srB sr rv) w bo := zt bl az (fun _ _ h => .inr h); have aA := bm.ch az hS.ne; refine q9 <| yd (uL 10 3) [10] (.p (q := InR .u64 y) (qaD (by omega) (by omega)) .z) <| yDe (nS ?_); refine ys <| ysr <| yp 4 [] (.l (aA.c 0) .z) <| yo (yQ (qjJ ay) fun V a9 => ?_); have F : Ch (srB sr rv) w V := zt bp a9 eZ; have O := aA.ch a9 id; have P := ay.ch a9 id id; refine yq 7 <| yw [55] (rN (rY a8.isSome)) (fun aa => ?_) fun aa => ?_
 ·have bq := aa; refine yz 19 <| yct <| yx 1 <| qd (rS (yR1 (.pointer none) ?_)); rw [qd3 I J K L M N] at hH; rw [if_pos (.inl bq)] at hH; simp only [Prod.mk.injEq] at hH; obtain ⟨rfl, rfl⟩ := hH; exact ⟨_, rfl, ⟨O, P, hS.ne, hS.nd⟩, F, .inl ⟨rfl, rfl⟩⟩
 have br := aa; refine yq 11 <| yw [59] (rL j 1) (fun ab => ?_) fun ab => ?_
 ·have cY := ab; refine yz 19 <| yct <| yx 1 <| qd (rS (yR1 (.pointer none) ?_)); rw [qd3 I J K L M N] at hH; rw [if_pos (.inr (.inl (by omega)))] at hH; simp only [Prod.mk.injEq] at hH; obtain ⟨rfl, rfl⟩ := hH; exact ⟨_, rfl, ⟨O, P, hS.ne, hS.nd⟩, F, .inl ⟨rfl, rfl⟩⟩
 have cZ := ab; refine yq 15 <| yw [63] (rL f 1) (fun ac => ?_) fun ac => ?_
 ·have d0 := ac; refine yz 19 <| yct <| yx 1 <| qd (rS (yR1 (.pointer none) ?_)); rw [qd3 I J K L M N] at hH; rw [if_pos (.inr (.inr (.inl (by omega))))] at hH; simp only [Prod.mk.injEq] at hH; obtain ⟨rfl, rfl⟩ := hH; exact ⟨_, rfl, ⟨O, P, hS.ne, hS.nd⟩, F, .inl ⟨rfl, rfl⟩⟩
 have d1 := ac; refine yz 19 <| yc (rM n m) (fun ad => ?_) fun ad => ?_
 ·have d2 := ad; refine yx 1 <| qd (rS (yR1 (.pointer none) ?_)); rw [qd3 I J K L M N] at hH; rw [if_pos (.inr (.inr (.inr (by omega))))] at hH; simp only [Prod.mk.injEq] at hH; obtain ⟨rfl, rfl⟩ := hH; exact ⟨_, rfl, ⟨O, P, hS.ne, hS.nd⟩, F, .inl ⟨rfl, rfl⟩⟩
 have d3 := ad; refine yk <| ysr <| yq 2 <| yo (yC (qgK j f _ (qz F hT (fun b h => h.elim (fun (h : b = sr) => by omega) (fun (h : b = rv) => by omega))) (by have := hS.rd.lt; have := zs F; omega)) ?_); rintro _ C ⟨t, rfl, bs, ae⟩; refine ⟨_, rfl, ?_⟩; have d4 : gTop ≤ w.heap.size := by have := hS.rd.lt; omega
 obtain ⟨g, o, ba, bn, bc, pa, pn, pc, Q, R, FB, FP, hI⟩ := bs; have bt := hI.inF.1.1; have G : w.heap.size ≤ t := Nat.le_trans (zs F) bt; have bu : Ch (srB sr rv) w C := zt F ae eZ; have bv := O.ch ae id; have bw := P.ch ae id id; refine yz 4 <| ysr <| yq 6 <| yo (yS hI.blk fun bx bz bA => ?_); have bB : Ch (· = t) C bx := zt (Ch.refl (· = t) C) bA iZ; have bC : Blk _ t (TS.vals ({ (qa7 zeroT j f) with top := m } : TS) g o (.slice ba bn bc) (.slice pa pn pc)) qV := Blk.to bz (by kernel_rfl); refine yq 9 <| yo (yS bC fun bD bE bF => ?_); have bG : Ch (· = t) C bD := zt bB bF iZ; have bH : Blk _ t (TS.vals ({ (qa7 zeroT j f) with top := m, bot := n } : TS) g o (.slice ba bn bc) (.slice pa pn pc)) qV := Blk.to bE (by kernel_rfl); refine ye <| ys <| yD [27, 28] fun bI d5 aB => ?_; have aC : Ch (· = t) C bI := zt bG aB eZ; have aD := bH.ch aB id; refine ydT (uL 0 27) [] rfl (fun _ => (.i 0 (2) (.i 1 (2) .z))) <| yK 27 (yN [.pointer none, .pointer none, .pointer none, .pointer none, .pointer none, .pointer none, .pointer none, .pointer none] 105 fun bJ af bK d6 bL aE => ?_); have bM : Ch (· = t) C bJ := zt aC aE eZ; have bN : C.heap.size ≤ af := by rw [bK]; exact zs aC
 have bO := aD.ch aE id; refine q9 <| yK 28 (yT [.pointer (some ⟨t, 88, none⟩), .pointer (some ⟨t, 89, none⟩), .pointer (some ⟨t, 90, none⟩), .pointer (some ⟨t, 91, none⟩), .pointer (some ⟨t, 95, none⟩), .pointer (some ⟨t, 92, none⟩), .pointer (some ⟨t, 93, none⟩), .pointer (some ⟨t, 94, none⟩)] bL fun bP bQ aF => ?_); have aG : Ch (· = t) C bP := zt bM aF (fun i hi (h : i = af) => by have := bN; omega); have bR := bO.ch aF (fun (h : t = af) => by have := aD.lt; omega); refine q9 <| yDe (nS ?_); refine qaZ ([(8, .int .u64 y), (9, pX t)]) (fun u => TermIn u t g o ba bn bc pa pn pc (qep j f m n d y 0) (fun b => V.heap.size ≤ b ∧ b < C.heap.size) Q R FB FP ∧ Blk u sr [pX rv, .bool true] tSr ∧ RdrAt u rv D a8 ∧ Ch (srB sr rv) w u) (fun d7 bS => ?_) (fun u138 bT => ?_)
 ·refine ysr <| yp 2 [] (.a (bQ.cs 0 8) .z) <| ye <| q8 ?_; have bU := hI.scalar (T' := ({ (qa7 zeroT j f) with top := m, bot := n } : TS)) aG bR rfl rfl rfl rfl; refine qN [7, 8, 9, 106, 107] (f' := [(7, iX d), (8, .int .u64 y), (9, pX t), (106, .agg #[.pointer (some ⟨t, 88, none⟩), .pointer (some ⟨t, 89, none⟩), .pointer (some ⟨t, 90, none⟩), .pointer (some ⟨t, 91, none⟩), .pointer (some ⟨t, 95, none⟩), .pointer (some ⟨t, 92, none⟩), .pointer (some ⟨t, 93, none⟩), .pointer (some ⟨t, 94, none⟩)]), (107, iX 0)]) <| qw (σ := Nat) (fun k => [(7, iX d), (8, .int .u64 y), (9, pX t), (106, .agg #[.pointer (some ⟨t, 88, none⟩), .pointer (some ⟨t, 89, none⟩), .pointer (some ⟨t, 90, none⟩), .pointer (some ⟨t, 91, none⟩), .pointer (some ⟨t, 95, none⟩), .pointer (some ⟨t, 92, none⟩), .pointer (some ⟨t, 93, none⟩), .pointer (some ⟨t, 94, none⟩)]), (107, iX ((k : Nat) : Int))]) (fun k u => k ≤ 8 ∧ TermIn u t g o ba bn bc pa pn pc (flK j f m n d k) (fun b => V.heap.size ≤ b ∧ b < C.heap.size) Q R FB FP ∧ Ch (· = t) C u) (fun k => 8 - k) 0 rfl ?_ ?_
  ·exact ⟨Nat.zero_le _, TermIn.eqT bU rfl, aG⟩
  intro k B bV d8 H; obtain ⟨d9, A, E⟩ := bV; refine yx 1 <| ys <| yc (rL ((k : Nat) : Int) 8) (fun ag => ?_) fun ag => ?_
  ·have da := ag; rcases (by omega : k = 0 ∨ k = 1 ∨ k = 2 ∨ k = 3 ∨ k = 4 ∨ k = 5 ∨ k = 6 ∨ k = 7) with rfl | rfl | rfl | rfl | rfl | rfl | rfl | rfl
   ·refine yk <| ys <| q8 <| yx 4 <| q7 <| yp 7 [] (.p (q := 0 ≤ (0 : Int)) (by omega) .z) <| yo (yS A.blk fun bW bX bY => ?_); have aH : Ch (· = t) B bW := zt (Ch.refl (· = t) B) bY iZ; have bZ : Blk _ t (TS.vals ({ (flK j f m n d 0) with wrap := (((ql .and .i64 (Int.fdiv d (2 ^ min (0 : Int).toNat (IntKind.bits .i64))) 1) : Int) == 1) } : TS) g o (.slice ba bn bc) (.slice pa pn pc)) qV := Blk.to bX (by kernel_rfl); refine yE (nB (nS ?_)); refine q7 <| yp 2 [] (.q6 1 .z) ?_; have c0 := A.scalar (T' := ({ (flK j f m n d 0) with wrap := (((ql .and .i64 (Int.fdiv d (2 ^ min (0 : Int).toNat (IntKind.bits .i64))) 1) : Int) == 1) } : TS)) aH bZ rfl rfl rfl rfl; refine yE (fun a ha => H 1 _ ⟨by decide, TermIn.eqT c0 (by rw [qcR r.1 (i63 r.2.1) 0 0 (by decide) rfl]; rfl), zt E aH iZ⟩ (by show 8 - (0 + 1) < 8 - 0; omega) a (ha.kp [7, 8, 9, 106, 107]))
   ·refine yk <| ys <| q8 <| yx 4 <| q7 <| yp 7 [] (.p (q := 0 ≤ (1 : Int)) (by omega) .z) <| yo (yS A.blk fun c1 c2 c3 => ?_); have aI : Ch (· = t) B c1 := zt (Ch.refl (· = t) B) c3 iZ; have c4 : Blk _ t (TS.vals ({ (flK j f m n d 1) with origin := (((ql .and .i64 (Int.fdiv d (2 ^ min (1 : Int).toNat (IntKind.bits .i64))) 1) : Int) == 1) } : TS) g o (.slice ba bn bc) (.slice pa pn pc)) qV := Blk.to c2 (by kernel_rfl); refine yE (nB (nS ?_)); refine q7 <| yp 2 [] (.q6 2 .z) ?_; have c5 := A.scalar (T' := ({ (flK j f m n d 1) with origin := (((ql .and .i64 (Int.fdiv d (2 ^ min (1 : Int).toNat (IntKind.bits .i64))) 1) : Int) == 1) } : TS)) aI c4 rfl rfl rfl rfl; refine yE (fun a ha => H 2 _ ⟨by decide, TermIn.eqT c5 (by rw [qcR r.1 (i63 r.2.1) 1 1 (by decide) rfl]; rfl), zt E aI iZ⟩ (by show 8 - (1 + 1) < 8 - 1; omega) a (ha.kp [7, 8, 9, 106, 107]))
   ·refine yk <| ys <| q8 <| yx 4 <| q7 <| yp 7 [] (.p (q := 0 ≤ (2 : Int)) (by omega) .z) <| yo (yS A.blk fun c6 c7 c8 => ?_); have aJ : Ch (· = t) B c6 := zt (Ch.refl (· = t) B) c8 iZ; have c9 : Blk _ t (TS.vals ({ (flK j f m n d 2) with insert := (((ql .and .i64 (Int.fdiv d (2 ^ min (2 : Int).toNat (IntKind.bits .i64))) 1) : Int) == 1) } : TS) g o (.slice ba bn bc) (.slice pa pn pc)) qV := Blk.to c7 (by kernel_rfl); refine yE (nB (nS ?_)); refine q7 <| yp 2 [] (.q6 3 .z) ?_; have ca := A.scalar (T' := ({ (flK j f m n d 2) with insert := (((ql .and .i64 (Int.fdiv d (2 ^ min (2 : Int).toNat (IntKind.bits .i64))) 1) : Int) == 1) } : TS)) aJ c9 rfl rfl rfl rfl; refine yE (fun a ha => H 3 _ ⟨by decide, TermIn.eqT ca (by rw [qcR r.1 (i63 r.2.1) 2 2 (by decide) rfl]; rfl), zt E aJ iZ⟩ (by show 8 - (2 + 1) < 8 - 2; omega) a (ha.kp [7, 8, 9, 106, 107]))
   ·refine yk <| ys <| q8 <| yx 4 <| q7 <| yp 7 [] (.p (q := 0 ≤ (3 : Int)) (by omega) .z) <| yo (yS A.blk fun cb cc cd => ?_); have aK : Ch (· = t) B cb := zt (Ch.refl (· = t) B) cd iZ; have ce : Blk _ t (TS.vals ({ (flK j f m n d 3) with hidden := (((ql .and .i64 (Int.fdiv d (2 ^ min (3 : Int).toNat (IntKind.bits .i64))) 1) : Int) == 1) } : TS) g o (.slice ba bn bc) (.slice pa pn pc)) qV := Blk.to cc (by kernel_rfl); refine yE (nB (nS ?_)); refine q7 <| yp 2 [] (.q6 4 .z) ?_; have cf := A.scalar (T' := ({ (flK j f m n d 3) with hidden := (((ql .and .i64 (Int.fdiv d (2 ^ min (3 : Int).toNat (IntKind.bits .i64))) 1) : Int) == 1) } : TS)) aK ce rfl rfl rfl rfl; refine yE (fun a ha => H 4 _ ⟨by decide, TermIn.eqT cf (by rw [qcR r.1 (i63 r.2.1) 3 3 (by decide) rfl]; rfl), zt E aK iZ⟩ (by show 8 - (3 + 1) < 8 - 3; omega) a (ha.kp [7, 8, 9, 106, 107]))
   ·refine yk <| ys <| q8 <| yx 4 <| q7 <| yp 7 [] (.p (q := 0 ≤ (4 : Int)) (by omega) .z) <| yo (yS A.blk fun cg ci cj => ?_); have aL : Ch (· = t) B cg := zt (Ch.refl (· = t) B) cj iZ; have ck : Blk _ t (TS.vals ({ (flK j f m n d 4) with alt := (((ql .and .i64 (Int.fdiv d (2 ^ min (4 : Int).toNat (IntKind.bits .i64))) 1) : Int) == 1) } : TS) g o (.slice ba bn bc) (.slice pa pn pc)) qV := Blk.to ci (by kernel_rfl); refine yE (nB (nS ?_)); refine q7 <| yp 2 [] (.q6 5 .z) ?_; have cl := A.scalar (T' := ({ (flK j f m n d 4) with alt := (((ql .and .i64 (Int.fdiv d (2 ^ min (4 : Int).toNat (IntKind.bits .i64))) 1) : Int) == 1) } : TS)) aL ck rfl rfl rfl rfl; refine yE (fun a ha => H 5 _ ⟨by decide, TermIn.eqT cl (by rw [qcR r.1 (i63 r.2.1) 4 4 (by decide) rfl]; rfl), zt E aL iZ⟩ (by show 8 - (4 + 1) < 8 - 4; omega) a (ha.kp [7, 8, 9, 106, 107]))
   ·refine yk <| ys <| q8 <| yx 4 <| q7 <| yp 7 [] (.p (q := 0 ≤ (5 : Int)) (by omega) .z) <| yo (yS A.blk fun cm cn co => ?_); have aM : Ch (· = t) B cm := zt (Ch.refl (· = t) B) co iZ; have cp : Blk _ t (TS.vals ({ (flK j f m n d 5) with draw0 := (((ql .and .i64 (Int.fdiv d (2 ^ min (5 : Int).toNat (IntKind.bits .i64))) 1) : Int) == 1) } : TS) g o (.slice ba bn bc) (.slice pa pn pc)) qV := Blk.to cn (by kernel_rfl); refine yE (nB (nS ?_)); refine q7 <| yp 2 [] (.q6 6 .z) ?_; have cq := A.scalar (T' := ({ (flK j f m n d 5) with draw0 := (((ql .and .i64 (Int.fdiv d (2 ^ min (5 : Int).toNat (IntKind.bits .i64))) 1) : Int) == 1) } : TS)) aM cp rfl rfl rfl rfl; refine yE (fun a ha => H 6 _ ⟨by decide, TermIn.eqT cq (by rw [qcR r.1 (i63 r.2.1) 5 5 (by decide) rfl]; rfl), zt E aM iZ⟩ (by show 8 - (5 + 1) < 8 - 5; omega) a (ha.kp [7, 8, 9, 106, 107]))
   ·refine yk <| ys <| q8 <| yx 4 <| q7 <| yp 7 [] (.p (q := 0 ≤ (6 : Int)) (by omega) .z) <| yo (yS A.blk fun cr ct cu => ?_); have aN : Ch (· = t) B cr := zt (Ch.refl (· = t) B) cu iZ; have cv : Blk _ t (TS.vals ({ (flK j f m n d 6) with draw1 := (((ql .and .i64 (Int.fdiv d (2 ^ min (6 : Int).toNat (IntKind.bits .i64))) 1) : Int) == 1) } : TS) g o (.slice ba bn bc) (.slice pa pn pc)) qV := Blk.to ct (by kernel_rfl); refine yE (nB (nS ?_)); refine q7 <| yp 2 [] (.q6 7 .z) ?_; have cw := A.scalar (T' := ({ (flK j f m n d 6) with draw1 := (((ql .and .i64 (Int.fdiv d (2 ^ min (6 : Int).toNat (IntKind.bits .i64))) 1) : Int) == 1) } : TS)) aN cv rfl rfl rfl rfl; refine yE (fun a ha => H 7 _ ⟨by decide, TermIn.eqT cw (by rw [qcR r.1 (i63 r.2.1) 6 6 (by decide) rfl]; rfl), zt E aN iZ⟩ (by show 8 - (6 + 1) < 8 - 6; omega) a (ha.kp [7, 8, 9, 106, 107]))
   refine yk <| ys <| q8 <| yx 4 <| q7 <| yp 7 [] (.p (q := 0 ≤ (7 : Int)) (by omega) .z) <| yo (yS A.blk fun cx cy cz => ?_); have aO : Ch (· = t) B cx := zt (Ch.refl (· = t) B) cz iZ; have cA : Blk _ t (TS.vals ({ (flK j f m n d 7) with shift := (((ql .and .i64 (Int.fdiv d (2 ^ min (7 : Int).toNat (IntKind.bits .i64))) 1) : Int) == 1) } : TS) g o (.slice ba bn bc) (.slice pa pn pc)) qV := Blk.to cy (by kernel_rfl); refine yE (nB (nS ?_)); refine q7 <| yp 2 [] (.q6 8 .z) ?_; have cB := A.scalar (T' := ({ (flK j f m n d 7) with shift := (((ql .and .i64 (Int.fdiv d (2 ^ min (7 : Int).toNat (IntKind.bits .i64))) 1) : Int) == 1) } : TS)) aO cA rfl rfl rfl rfl; refine yE (fun a ha => H 8 _ ⟨by decide, TermIn.eqT cB (by rw [qcR r.1 (i63 r.2.1) 7 7 (by decide) rfl]; rfl), zt E aO iZ⟩ (by show 8 - (7 + 1) < 8 - 7; omega) a (ha.kp [7, 8, 9, 106, 107]))
  have db := ag; have cC : k = 8 := by omega
  subst cC; refine qk (eS (qf (qe (fun a ha => bS _ ⟨TermIn.eqT A (flK_end j f m n d y), bv.ch E (fun (h : sr = t) => by have := G; have := hS.blk.lt; omega), bw.ch E (fun (h : rv = t) => by have := G; have := hS.rd.lt; omega) (fun (h : D = t) => by have := G; have := hS.rd.dlt; omega), zt bu E (fun i hi (h : i = t) => by have := G; omega)⟩ a (ha.kp [8, 9])))))
 obtain ⟨cD, cE, cF, cG⟩ := bT; refine ys <| yx 1 <| q8 <| qN [8, 9, 119] (f' := [(8, .int .u64 y), (9, pX t), (119, iX 0)]) <| qw (σ := Nat) (fun k => [(8, .int .u64 y), (9, pX t), (119, iX ((k : Nat) : Int))]) (fun k u => k ≤ 60 ∧ TermIn u t g o ba bn bc pa pn pc (qep j f m n d y k) (fun b => V.heap.size ≤ b ∧ b < C.heap.size) Q R FB FP ∧ Blk u sr [pX rv, .bool true] tSr ∧ RdrAt u rv D a8 ∧ Ch (srB sr rv) w u) (fun k => 60 - k) 0 rfl ?_ ?_
 ·exact ⟨Nat.zero_le _, cD, cE, cF, cG⟩
 intro k W cH dc cI; obtain ⟨hk, X, hB, hR, ah⟩ := cH; refine yx 1 <| ys <| yc (rL ((k : Nat) : Int) 60) (fun ai => ?_) fun ai => ?_
 ·have dd := ai; refine yk <| ys <| q8 <| yx 2 <| yD [10] fun aP de S => ?_; have cJ : Ch (srB sr rv) w aP := zt ah S eZ; have cK : Ch (· = t) W aP := zt (Ch.refl (· = t) W) S eZ; have cL := X.blk.ch S id; have cM := hB.ch S id; have cN := hR.ch S id id; refine yd (uL 0 10) [] (.p (q := 0 ≤ (((k : Nat) : Int) : Int)) (by omega) (.i ((k : Nat) : Int) (60) .z)) <| yK 10 (qa1 (28 + (((k : Nat) : Int) : Int).toNat * 1) [.bool (((ql .and .u64 (Int.fdiv y (2 ^ min (((k : Nat) : Int) : Int).toNat (IntKind.bits .u64))) 1) : Int) == 1)] none (by kernel_rfl) cL (by rw [qbi]; simp only [List.length_cons, List.length_nil]; omega) ?_); intro aj ak Y; replace ak : Blk aj t (TS.vals ({ (qep j f m n d y k) with tabs := (fun i => if i = (((k : Nat) : Int) : Int).toNat then (((ql .and .u64 (Int.fdiv y (2 ^ min (((k : Nat) : Int) : Int).toNat (IntKind.bits .u64))) 1) : Int) == 1) else (qep j f m n d y k).tabs i) } : TS) g o (.slice ba bn bc) (.slice pa pn pc)) qV := Blk.to ak (qew (qep j f m n d y k) _ _ _ _ _ (by omega) _); have cO : Ch (srB sr rv) w aj := zt cJ Y (fun i hi (h : i = t) => by have := G; omega); have cP : Ch (· = t) W aj := zt cK Y iZ; have cQ := cM.ch Y (fun (h : sr = t) => by have := G; have := hS.blk.lt; omega); have cR := cN.ch Y (fun (h : rv = t) => by have := G; have := hS.rd.lt; omega) (fun (h : D = t) => by have := G; have := hS.rd.dlt; omega); refine q9 <| yDe (nB (nS ?_)); refine q7 <| yp 2 [] (.q6 (((k : Nat) : Int) + 1) .z) ?_
  have cS := X.scalar (T' := ({ (qep j f m n d y k) with tabs := (fun i => if i = (((k : Nat) : Int) : Int).toNat then (((ql .and .u64 (Int.fdiv y (2 ^ min (((k : Nat) : Int) : Int).toNat (IntKind.bits .u64))) 1) : Int) == 1) else (qep j f m n d y k).tabs i) } : TS)) cP ak rfl rfl rfl rfl; have aQ := cS; rw [qkQ (qmW .u64 (.inr rfl) U.1 (i63 U.2.1) k (by omega))] at aQ; refine yE (fun a ha => cI (k + 1) _ ⟨by omega, aQ, cQ, cR, cO⟩ (by show 60 - (k + 1) < 60 - k; omega) a (ha.kp [8, 9, 119]))
 have df := ai; refine qk (eS (qf (qe (nS ?_)))); refine yx 2 <| qd (yR1 (pX t) ?_); rw [qd3 I J K L M N] at hH; rw [if_neg (by rintro (h | h | h | h); exact absurd (br.symm.trans h) (by decide); omega; omega; omega)] at hH; simp only [Prod.mk.injEq] at hH; obtain ⟨rfl, rfl⟩ := hH; have cT : k = 60 := by omega
 subst cT; have dg := zs F; have cU := X.lt; have dh := zs ah; exact ⟨_, rfl, ⟨hB, hR, hS.ne, hS.nd⟩, ah, .inr ⟨t, _, rfl, rfl, TermAt.mono ⟨g, o, ba, bn, bc, pa, pn, pc, Q, R, FB, FP, (show TermIn _ t g o ba bn bc pa pn pc (qgW j f m n d y) _ Q R FB FP from X)⟩ (fun b hb => ⟨by have := hb.1; omega, by have := cU b hb; have := zs (Ch.refl (· = t) W); omega⟩) (fun b hb => ⟨hb.2, by have := hb.1; omega⟩)⟩⟩
theorem qeD {T : TS} {W H : Int} {s s1 s2 s3 s4 s5 s6 s7 s8 s9 : RS} {a b c : Cur} {ha hb hc f4 f5 f6 f9 : Bool} {d e k : List (List Cel)} {t r : ByteArray} {p : PS}
  (h1 : qi2 W H s = (a, ha, s1)) (h2 : qi2 W H s1 = (b, hb, s2)) (h3 : qi2 W H s2 = (c, hc, s3)) (h4 : qaa W H.toNat [] s3 ((ha && hb) && hc) = (d, s4, f4)) (h5 : qaa W H.toNat [] s4 f4 = (e, s5, f5)) (h6 : qft s5 f5 = (k, s6, f6))
  (h7 : qaW 40 s6 = (t, s7)) (h8 : qaW 400 s7 = (r, s8)) (h9 : qi3 s8 f6 = (p, s9, f9)) :
  qkM T W H s = if f9 = true ∧ s9 = some [] then some { T with cursor := a, saved := b, away := c, grid := ⟨W, H, d⟩, other := ⟨W, H, e⟩, back := k, title := t, reply := r, parser := p } else none := by
 unfold qkM
 rw [h1]
 dsimp only
 rw [h2]
 dsimp only
 rw [h3]
 dsimp only
 rw [h4]
 dsimp only
 rw [h5]
 dsimp only
 rw [h6]
 dsimp only
 rw [h7]
 dsimp only
 rw [h8]
 dsimp only
 rw [h9]
def qkR (x : RowO) : Row := ⟨x.b.getD 0, x.n, x.cap, x.l⟩
section
variable {w : World} {m n cap : Nat} {o : Option Nat} {rows : List RowO}
theorem RowsO.some (h : RowsO w m rows) {x : RowO} (hx : x ∈ rows) (hl : 0 < x.l.length) : ∃ b, x.b = Option.some b := by
 obtain ⟨h1, h2⟩ := h.line x hx
 exact qcf h1 (by omega)
theorem RowsO.val (h : RowsO w m rows) (hl : ∀ x ∈ rows, 0 < x.l.length) : rows.map RowO.val = (rows.map qkR).map Row.val := by
 rw [List.map_map]
 refine List.map_congr_left fun x hx => ?_
 obtain ⟨b, hb⟩ := h.some hx (hl x hx)
 show Value.slice (x.b.map at0) x.n x.cap = Value.slice (Option.some ⟨x.b.getD 0, 0, none⟩) x.n x.cap
 rw [hb]; rfl
theorem RowsO.each (h : RowsO w m rows) (hl : ∀ x ∈ rows, 0 < x.l.length) : ∀ y ∈ rows.map qkR, (LineAt w y.b y.l y.cap ∧ y.l.length = y.n) ∧ m ≤ y.b ∧ ∃ x ∈ rows, x.b = Option.some y.b := fun y hy => by
 obtain ⟨x, hx, rfl⟩ := List.mem_map.1 hy
 obtain ⟨b, hb⟩ := h.some hx (hl x hx)
 obtain ⟨h1, h2⟩ := h.line x hx
 have e : (qkR x).b = b := by show x.b.getD 0 = b; rw [hb]; rfl
 refine ⟨⟨?_, h2⟩, ?_, x, hx, by rw [e, hb]⟩
 ·unfold LineAt
  rw [e]
  show Own w qcy 6 (Option.some b) x.l.length x.cap (qX x.l)
  rw [h2, ← hb]
  exact h1
 ·rw [e]; exact h.lo x hx b hb
theorem RowsO.nodup (h : RowsO w m rows) (hl : ∀ x ∈ rows, 0 < x.l.length) : ((rows.map qkR).map Row.b).Nodup := by
 rw [List.map_map]
 refine List.pairwise_map.2 (h.nd.imp_of_mem fun {x y} hx hy hxy => ?_)
 obtain ⟨b, hb⟩ := h.some hx (hl x hx)
 obtain ⟨c, hc⟩ := h.some hy (hl y hy)
 show ¬ x.b.getD 0 = y.b.getD 0
 rw [hb, hc]
 intro e
 refine hxy b hb ?_
 rw [hc]
 exact congrArg Option.some e.symm
theorem OutO.grid (h : OutO w m o n cap rows) {g : Nat} {W H : Int} (hg : Blk w g [.int .i64 W, .int .i64 H, .slice (o.map at0) n cap] qdS) (hgm : g < m) (hW : 1 ≤ W ∧ W ≤ 60) (hH : 1 ≤ H ∧ H ≤ 60) (hn : rows.length = H.toNat) (hl : ∀ x ∈ rows, (x.l.length : Int) = W)
  {F : Nat → Prop} (hF : F g ∧ (∀ b, o = some b → F b) ∧ ∀ x ∈ rows, ∀ b, x.b = some b → F b) (hlt : ∀ b, F b → b < w.heap.size) (hhi : ∀ b, F b → gTop ≤ b) : GridAt w g ⟨W, H, rows.map RowO.l⟩ F := by
 have hl0 : ∀ x ∈ rows, 0 < x.l.length := fun x hx => by have := hl x hx; omega
 have hlen := h.len
 obtain ⟨r, rfl⟩ := qcf h.own (by omega)
 have hrm := h.lo r rfl
 have hR := h.rs.each hl0
 refine ⟨r, cap, rows.map qkR, ?_⟩
 exact
 {head := by rw [List.length_map, hlen]; exact hg
  body := by rw [List.length_map, hlen, ← h.rs.val hl0]; exact h.own
  line := fun y hy => (hR y hy).1
  lines := by rw [List.map_map]; rfl
  ok := ⟨hW, hH, by rw [List.length_map]; exact hn, fun l hl' => by
   obtain ⟨x, hx, rfl⟩ := List.mem_map.1 hl'
   have := hl x hx
   show x.l.length = W.toNat
   omega⟩
  gr := by omega
  gb := fun y hy => by
   obtain ⟨_, h2, x, hx, hb⟩ := hR y hy
   exact ⟨by omega, fun e => h.off h.own x hx _ hb (by rw [e])⟩
  nodup := h.rs.nodup hl0
  inF := ⟨hF.1, hF.2.1 r rfl, fun y hy => by obtain ⟨_, _, x, hx, hb⟩ := hR y hy; exact hF.2.2 x hx _ hb⟩
  lt := hlt
  hi := hhi }
theorem OutO.linesAt (h : OutO w m o n cap rows) (hl : ∀ x ∈ rows, 0 < x.l.length) {K : Nat → Prop} (hK : (∀ b, o = some b → K b) ∧ ∀ x ∈ rows, ∀ b, x.b = some b → K b) (hlt : ∀ b, K b → b < w.heap.size) (hhi : ∀ b, K b → gTop ≤ b) : LinesAt w (o.map at0) n (rows.map qkR) K := by
 have hR := h.rs.each hl
 exact
 {rd := by rw [← h.rs.val hl]; exact h.own.rd
  len := by rw [List.length_map]; exact h.len
  line := fun y hy => (hR y hy).1
  inK := fun y hy => by obtain ⟨_, _, x, hx, hb⟩ := hR y hy; exact hK.2 x hx _ hb
  aK := fun ad e => by
   cases o with
   | none => cases e
   | some b => cases e; exact hK.1 b rfl
  lt := hlt
  hi := hhi }
end
structure Under (o : Option Nat) (rows : List RowO) (m : Nat) : Prop where
 o : ∀ b, o = some b → b < m
 r : ∀ x ∈ rows, ∀ b, x.b = some b → b < m
theorem OutO.under {w : World} {m n cap : Nat} {o : Option Nat} {rows : List RowO} (h : OutO w m o n cap rows) : Under o rows w.heap.size :=
 ⟨fun b e => by have := h.own; rw [e] at this; exact this.lt, fun x hx b e => h.rs.lt x hx b e⟩
theorem term_of {w : World} {t g q m0 m1 m2 m3 m4 n1 c1 n2 c2 n3 c3 n4 c4 : Nat} {o1 o2 o3 o4 : Option Nat} {r1 r2 r3 : List RowO} {T : TS} (hd : DecOk T)
  (hb : Blk w t (T.vals g q (.slice (o3.map at0) n3 c3) (.slice (o4.map at0) n4 c4)) qV)
  (hg : Blk w g [.int .i64 T.grid.w, .int .i64 T.grid.h, .slice (o1.map at0) n1 c1] qdS) (hq : Blk w q [.int .i64 T.grid.w, .int .i64 T.grid.h, .slice (o2.map at0) n2 c2] qdS)
  (h1 : OutO w m1 o1 n1 c1 r1) (h2 : OutO w m2 o2 n2 c2 r2) (h3 : OutO w m3 o3 n3 c3 r3) (h4 : Own w tI 1 o4 n4 c4 (T.parser.params.map (Value.int .i64))) (l4 : ∀ b, o4 = some b → m4 ≤ b)
  (e1 : T.grid.lines = r1.map RowO.l) (e2 : T.other.lines = r2.map RowO.l) (e3 : T.back = r3.map RowO.l)
  (k1 : Under o1 r1 m2) (k2 : Under o2 r2 m3) (k3 : Under o3 r3 m4) (h7 : gTop ≤ m0) (ht : m0 ≤ t ∧ t < m1) (hgm : m0 ≤ g ∧ g < m1) (hqm : m0 ≤ q ∧ q < m1) (htg : ¬ t = g) (htq : ¬ t = q) (hgq : ¬ g = q) (hm : m1 ≤ m2 ∧ m2 ≤ m3 ∧ m3 ≤ m4 ∧ m4 ≤ w.heap.size) :
  TermAt w t T (fun b => m0 ≤ b ∧ b < w.heap.size) := by
 obtain ⟨⟨G1w, G1h, G1l⟩, ⟨G2w, G2h, G2l⟩, cu, sa, aw, top, bot, tabs, wr, og, ins, hid, d0, d1, sh, al, ti, bk, pp, re⟩ := T
 have u3 := h3.under
 have hw := hd.w
 have hh := hd.h
 obtain ⟨hw2, hh2⟩ := hd.o
 have g1 := hd.g
 have g2 := hd.g2
 have k0 := hd.k
 dsimp only at *
 subst e1 e2 e3 hw2 hh2
 have a1 : ∀ x ∈ r1, (x.l.length : Int) = G2w := fun x hx => (g1.2 _ (List.mem_map_of_mem hx)).1
 have a2 : ∀ x ∈ r2, (x.l.length : Int) = G2w := fun x hx => (g2.2 _ (List.mem_map_of_mem hx)).1
 have a3 : ∀ x ∈ r3, 0 < x.l.length := fun x hx => (k0.2 _ (List.mem_map_of_mem hx)).1
 have gg1 := h1.grid hg (by omega) hw hh (by have := g1.1; rwa [List.length_map] at this) a1 (F := fun b => b = g ∨ (m1 ≤ b ∧ b < m2)) ⟨.inl rfl, fun b e => .inr ⟨h1.lo b e, k1.o b e⟩, fun x hx b e => .inr ⟨h1.rs.lo x hx b e, k1.r x hx b e⟩⟩ (fun b hb => by omega) (fun b hb => by omega)
 have gg2 := h2.grid hq (by omega) hw hh (by have := g2.1; rwa [List.length_map] at this) a2 (F := fun b => b = q ∨ (m2 ≤ b ∧ b < m3)) ⟨.inl rfl, fun b e => .inr ⟨h2.lo b e, k2.o b e⟩, fun x hx b e => .inr ⟨h2.rs.lo x hx b e, k2.r x hx b e⟩⟩ (fun b hb => by omega) (fun b hb => by omega)
 have gg3 := h3.linesAt a3 (K := fun b => m3 ≤ b ∧ b < m4) ⟨fun b e => ⟨h3.lo b e, k3.o b e⟩, fun x hx b e => ⟨h3.rs.lo x hx b e, k3.r x hx b e⟩⟩ (fun b hb => by omega) (fun b hb => by omega)
 refine ⟨g, q, o3.map at0, n3, c3, o4.map at0, n4, c4, fun b => b = g ∨ (m1 ≤ b ∧ b < m2), fun b => b = q ∨ (m2 ≤ b ∧ b < m3), fun b => m3 ≤ b ∧ b < m4, fun b => m4 ≤ b ∧ b < w.heap.size, ?_⟩
 exact
 {blk := hb
  g1 := gg1
  g2 := gg2
  bk := ⟨_, gg3, by rw [List.map_map]; rfl⟩
  bcap := ⟨h3.own.2.1, fun e => by
   cases o3 with
   | none => exact (h3.own.2.2.2.1 rfl).2
   | some b => cases e⟩
  ps := ⟨h4.rd, by have := h4.1; rwa [List.length_map, Nat.mul_one] at this, (fun e => by
   cases o4 with
   | none => exact (h4.2.2.2.1 rfl).2
   | some b => cases e), fun ad e => by
   cases o4 with
   | none => cases e
   | some b => cases e; exact ⟨l4 b rfl, h4.lt⟩⟩
  pz := ⟨o4, rfl⟩
  bz := by
   cases o3 with
   | none => exact .inl rfl
   | some b => exact .inr ⟨b, 0, rfl⟩
  t1 := fun h => by omega
  t2 := fun h => by omega
  tB := fun h => by omega
  tP := fun h => by omega
  a12 := fun b h1 h2 => by omega
  a1B := fun b h1 h2 => by omega
  a2B := fun b h1 h2 => by omega
  a1P := fun b h1 h2 => by omega
  a2P := fun b h1 h2 => by omega
  inF := ⟨by omega, fun b h => by omega, fun b h => by omega, fun b h => by omega, fun b h => by omega⟩
  lt := fun b h => h.2
  hi := fun b h => by omega }
theorem qmY {s s1 : RS} (h : qgX s = (none, s1)) : decT s = none := by unfold decT; rw [h]
theorem qdL {s s1 : RS} {T : TS} (h : qgX s = (some T, s1)) : decT s = qkM T T.grid.w T.grid.h s1 := by unfold decT; rw [h]
theorem qmZ {s s1 : RS} {T : TS} (h : qgX s = (some T, s1)) : T.other = T.grid := by
 unfold qgX at h; dsimp only at h; split at h
 ·cases h
 simp only [Prod.mk.injEq, Option.some.injEq] at h; rw [← h.1]; rfl
set_option maxHeartbeats 4000000 in
theorem qkS (D : Nat) (a : Option Addr) (n cap : Nat) (us : List Int) (ot : Option TS) (w : World) (hT : LT w) (h7 : gTop ≤ w.heap.size) (hr : Rd w a (u8s us)) (hl : us.length = n) (hle : n ≤ cap) (hz : (n = 0 ∧ cap = 0) ∨ ∃ o, a = some ⟨D, o, none⟩) (hb : qfq us) (hn : n ≤ 1000000) (hD : D < w.heap.size) (hX : decT (some us) = ot) : Calls Tryz.prog 14 [.slice a n cap].toArray w fun e w' =>
 ∃ v x, e = .returned (.tuple #[v, iX x]) ∧ Ch (fun _ => False) w w' ∧ ((ot = none ∧ v = .pointer none ∧ x = 1) ∨ ∃ t T, ot = some T ∧ v = pX t ∧ x = 0 ∧ TermAt w' t T (fun b => w.heap.size ≤ b ∧ b < w'.heap.size)) := by
 refine yA Tryz.func14 rfl <| yx 2 <| ysr <| yq 1 <| yo (yC (of_any D a n cap us _ hr hl hle hz hb hn hD) ?_); rintro _ gp ⟨rv, rfl, gq, aB, bI⟩; refine ⟨_, rfl, ?_⟩; have aV := zu (zm w) bI iZ; have bJ := aB.rs; refine yq 3 <| yo (yN [pX rv, .bool true] 77 fun gr sr bK gs aW aX => ?_); have gu := zn bK aV; have B : ¬ sr = rv := by have := aB.lt; omega
 have L : ¬ sr = D := by omega
 have af := zu aV aX iZ; have aY := aB.ch aX id id; have gv := aW.lt; have gw := aY.lt; refine yz 5 <| ysr <| yq 1 ?_; obtain ⟨gx, s1, hH⟩ : ∃ o s', qgX (some us) = (o, s') := ⟨_, _, rfl⟩
 refine yo (yC (qmX ⟨aW, aY, B, L⟩ (qz (Up.ch af) hT (fun _ h => h.elim)) (by omega) (by omega) hH) ?_); rintro _ d ⟨v0, rfl, aZ, bM, bN⟩; refine ⟨_, rfl, ?_⟩; have b3 := zu af bM (fun i hi h => h.elim (fun (h : i = sr) => by omega) (fun (h : i = rv) => by omega)); rcases bN with ⟨rfl, rfl⟩ | ⟨t, T, rfl, rfl, bO⟩
 ·refine yz 3 <| ys <| yx 2 <| yct <| yx 2 <| qd (rS (yR2 [.pointer none, iX 1] .z ?_)); rw [qmY hH] at hX; exact ⟨_, _, rfl, Up.ch b3, .inl ⟨hX.symm, rfl, rfl⟩⟩
 obtain ⟨g, q, ba, bn, bc, pa, pn, pc, F1, F2, FB, FP, hI⟩ := bO; obtain ⟨r1, gC, gD, ag⟩ := hI.g1; obtain ⟨r2, gF, gG, au⟩ := hI.g2; have gH := hI.inF.1; have gI := hI.inF.2.1 g ag.inF.1; have gJ := hI.inF.2.2.1 q au.inF.1; have C : Df t g := fun e => hI.t1 (e ▸ ag.inF.1); have E : Df t q := fun e => hI.t2 (e ▸ au.inF.1); have aC : Df g q := fun e => hI.a12 g ag.inF.1 (e ▸ au.inF.1); obtain ⟨gK, gL, _⟩ := ag.ok; have j : Df t sr := (show ¬ t = sr by omega)
 have f : Df t rv := (show ¬ t = rv by omega)
 have M : Df g sr := (show ¬ g = sr by omega)
 have m : Df g rv := (show ¬ g = rv by omega)
 have N : Df q sr := (show ¬ q = sr by omega)
 have r : Df q rv := (show ¬ q = rv by omega)
 have av : Df sr rv := B; have gM : w.heap.size ≤ t := by have := zs af; omega
 have gN : w.heap.size ≤ g := by have := zs af; omega
 have gO : w.heap.size ≤ q := by have := zs af; omega
 refine yz 3 <| ys <| yx 2 <| ycf <| yk <| ys <| ys <| yD [9] fun bP gP W => ?_; have b4 := zu b3 W iZ; have bQ : Ch (fun _ => True) d bP := zt (Ch.refl (fun _ => True) d) W (fun _ _ _ => trivial); have aD := aZ.blk.ch W id; have aE := aZ.rd.ch W id id; have aF := hI.blk.ch W id; have bR := ag.head.ch W id; have bS := au.head.ch W id; refine yd [0, 1, 2, 3, 4, 5, 6, 7, 8, 11] [] .z <| yK 9 (yB [.pointer (some ⟨t, 2, none⟩), .pointer (some ⟨t, 10, none⟩), .pointer (some ⟨t, 18, none⟩)] 79 3 fun bT a7 bU gQ b5 X => ?_); have gR := zn bU b4; have bV := zu b4 X iZ; have bW : Ch (fun _ => True) d bT := zt bQ X (fun _ _ _ => trivial); have bX := aD.ch X id; have bY := aE.ch X id id; have bZ := aF.ch X id; have c0 := bR.ch X id; have c1 := bS.ch X id; refine q9 <| yd [10] [] .z <| yDe (nS ?_); refine q8 <| yU 4 (yU1 ?_); refine yx 1 <| ys <| yct <| yk <| ys <| q8 <| ysr <| yp 3 [] (.i 0 (3) (.l (b5.c 0) .z)) <| ye <| yD [16, 18] fun c2 gS O => ?_; have c3 := zu bV O iZ; have c4 : Ch (fun _ => True) d c2 := zt bW O (fun _ _ _ => trivial); have c5 := bX.ch O id; have c6 := bY.ch O id id; have aG := bZ.ch O id; have aH := c0.ch O id; have c7 := c1.ch O id; have c8 := b5.ch O id; refine yd (uL 0 16) [] (.l (aG.c 0) (.l (aH.c 0) (.l (aG.c 0) (.l (aH.c 1) .z)))) ?_; obtain ⟨Y, c9, ca, ah⟩ : ∃ c ok s', qi2 T.grid.w T.grid.h s1 = (c, ok, s') := ⟨_, _, _, rfl⟩
 refine yK 16 (yQ (qdf ⟨c5, c6, B, L⟩ ah (by omega) (by omega)) ?_); rintro cb ⟨b6, a8⟩; have cc := zu c3 a8 (fun i hi h => h.elim (fun (h : i = sr) => by omega) (fun (h : i = rv) => by omega)); have cd : Ch (fun _ => True) d cb := zt c4 a8 (fun _ _ _ => trivial); have ce := aG.ch a8 (fun h => h.elim j f); have cf := aH.ch a8 (fun h => h.elim M m); have cg := c7.ch a8 (fun h => h.elim N r); have ci := c8.ch a8 (fun h => h.elim (fun (h : a7 = sr) => by have := aD.lt; omega) (fun (h : a7 = rv) => by have := aE.lt; omega)); refine q9 <| yd [17] [] .z <| yK 18 (yS ce fun cj ck Z => ?_); have cl := zu cc Z (fun i hi (h : i = t) => by omega); have cm : Ch (fun _ => True) d cj := zt cd Z (fun _ _ _ => trivial); have cn := cf.ch Z (fun h => C h.symm); have co := cg.ch Z (fun h => E h.symm); have b7 := ci.ch Z (fun (h : a7 = t) => by have := aF.lt; omega); have cp := b6.blk.ch Z (fun h => j h.symm); have cq := b6.rd.ch Z (fun h => f h.symm) (fun (h : D = t) => by omega); have cr : Blk _ t (TS.vals ({ T with cursor := Y } : TS) g q (.slice ba bn bc) (.slice pa pn pc)) qV := Blk.to ck (by kernel_rfl); refine q9 <| yDe (nB (nS ?_)); refine q7 <| yp 2 [] (.q6 1 .z) <| yE (nU (yU1 ?_)); refine yx 1 <| ys <| yct <| yk <| ys <| q8 <| ysr <| yp 3 [] (.i 1 (3) (.l (b7.c 1) .z)) <| ye <| yD [16, 18] fun cs gT P => ?_; have ct := zu cl P iZ; have cu : Ch (fun _ => True) d cs := zt cm P (fun _ _ _ => trivial); have aI := cn.ch P id; have cv := co.ch P id; have cw := b7.ch P id
 have cx := cp.ch P id; have cy := cq.ch P id id; have aJ := cr.ch P id; refine yd (uL 0 16) [] (.l (aJ.c 0) (.l (aI.c 0) (.l (aJ.c 0) (.l (aI.c 1) .z)))) ?_; obtain ⟨a9, cz, cA, ai⟩ : ∃ c ok s', qi2 T.grid.w T.grid.h ca = (c, ok, s') := ⟨_, _, _, rfl⟩
 refine yK 16 (yQ (qdf ⟨cx, cy, B, L⟩ ai (by omega) (by omega)) ?_); rintro cB ⟨b8, aa⟩; have cC := zu ct aa (fun i hi h => h.elim (fun (h : i = sr) => by omega) (fun (h : i = rv) => by omega)); have cD : Ch (fun _ => True) d cB := zt cu aa (fun _ _ _ => trivial); have cE := aI.ch aa (fun h => h.elim M m); have cF := cv.ch aa (fun h => h.elim N r); have cG := cw.ch aa (fun h => h.elim (fun (h : a7 = sr) => by have := aD.lt; omega) (fun (h : a7 = rv) => by have := aE.lt; omega)); have cH := aJ.ch aa (fun h => h.elim j f); refine q9 <| yd [17] [] .z <| yK 18 (yS cH fun cI cJ a0 => ?_); have cK := zu cC a0 (fun i hi (h : i = t) => by omega); have cL : Ch (fun _ => True) d cI := zt cD a0 (fun _ _ _ => trivial); have cM := cE.ch a0 (fun h => C h.symm); have cN := cF.ch a0 (fun h => E h.symm); have cO := cG.ch a0 (fun (h : a7 = t) => by have := aF.lt; omega); have cP := b8.blk.ch a0 (fun h => j h.symm); have cQ := b8.rd.ch a0 (fun h => f h.symm) (fun (h : D = t) => by omega); have cR : Blk _ t (TS.vals ({ T with cursor := Y, saved := a9 } : TS) g q (.slice ba bn bc) (.slice pa pn pc)) qV := Blk.to cJ (by kernel_rfl); refine q9 <| yDe (nB (nS ?_)); refine q7 <| yp 2 [] (.q6 2 .z) <| yE (nU (yU1 ?_)); refine yx 1 <| ys <| yct <| yk <| ys <| q8 <| ysr <| yp 3 [] (.i 2 (3) (.l (cO.c 2) .z)) <| ye <| yD [16, 18] fun cS gU a1 => ?_; have cT := zu cK a1 iZ; have cU : Ch (fun _ => True) d cS := zt cL a1 (fun _ _ _ => trivial); have aK := cM.ch a1 id; have cV := cN.ch a1 id
 have cW := cP.ch a1 id; have cX := cQ.ch a1 id id; have aL := cR.ch a1 id; refine yd (uL 0 16) [] (.l (aL.c 0) (.l (aK.c 0) (.l (aL.c 0) (.l (aK.c 1) .z)))) ?_; obtain ⟨aj, cY, cZ, ak⟩ : ∃ c ok s', qi2 T.grid.w T.grid.h cA = (c, ok, s') := ⟨_, _, _, rfl⟩
 refine yK 16 (yQ (qdf ⟨cW, cX, B, L⟩ ak (by omega) (by omega)) ?_); rintro d0 ⟨b9, al⟩; have d1 := zu cT al (fun i hi h => h.elim (fun (h : i = sr) => by omega) (fun (h : i = rv) => by omega)); have d2 : Ch (fun _ => True) d d0 := zt cU al (fun _ _ _ => trivial); have d3 := aK.ch al (fun h => h.elim M m); have d4 := cV.ch al (fun h => h.elim N r); have d5 := aL.ch al (fun h => h.elim j f); refine q9 <| yd [17] [] .z <| yK 18 (yS d5 fun d6 d7 ab => ?_); have d8 := zu d1 ab (fun i hi (h : i = t) => by omega); have d9 : Ch (fun _ => True) d d6 := zt d2 ab (fun _ _ _ => trivial); have da := d3.ch ab (fun h => C h.symm); have db := d4.ch ab (fun h => E h.symm); have dc := b9.blk.ch ab (fun h => j h.symm); have dd := b9.rd.ch ab (fun h => f h.symm) (fun (h : D = t) => by omega); have de : Blk _ t (TS.vals ({ T with cursor := Y, saved := a9, away := aj } : TS) g q (.slice ba bn bc) (.slice pa pn pc)) qV := Blk.to d7 (by kernel_rfl); refine q9 <| yDe (nB (nS ?_)); refine q7 <| yp 2 [] (.q6 3 .z) <| yE (nU (yU1 ?_)); refine yx 1 <| ys <| ycf <| qk (eS (qf (qe (nS ?_)))); refine ys <| ys <| yD [8] fun df gV a2 => ?_; have bb := zu d8 a2 iZ; have dg : Ch (fun _ => True) d df := zt d9 a2 (fun _ _ _ => trivial); have bd := da.ch a2 id; have dh := db.ch a2 id; have bf := dc.ch a2 id; have bg := dd.ch a2 id id; have aM := de.ch a2 id; refine yd [0, 1, 2, 3, 4, 5, 6, 7, 10] [] (.l (aM.c 0) (.l (aM.c 1) .z)) <| yK 8 (yB [pX g, pX q] 42 2 fun di aw dj gW bh a3 => ?_)
 have gX := zn dj bb; have dk := zu bb a3 iZ; have dl : Ch (fun _ => True) d di := zt dg a3 (fun _ _ _ => trivial); have dm := bd.ch a3 id; have dn := dh.ch a3 id; have dp := bf.ch a3 id; have dq := bg.ch a3 id id; have dr := aM.ch a3 id; refine q9 <| yd [9] [] .z <| yDe (nS ?_); refine q8 <| yU 3 (yU1 ?_); refine yx 1 <| ys <| yct <| yk <| ys <| q8 <| ysr <| yp 3 [] (.i 0 (2) (.l (bh.c 0) .z)) <| ye <| yD [16, 19] fun a4 gY Q => ?_; have bi := zu dk Q iZ; have ds : Ch (fun _ => True) d a4 := zt dl Q (fun _ _ _ => trivial); have aN := dm.ch Q id; have dt := dn.ch Q id; have du := dp.ch Q id; have dv := dq.ch Q id id; have aO := dr.ch Q id; have dw := bh.ch Q id; refine yd (uL 0 16) [] (.l (aO.c 0) (.l (aN.c 0) (.l (aO.c 0) (.l (aN.c 1) .z)))) ?_; have gZ : d.heap.size ≤ a4.heap.size := zs ds; obtain ⟨h0, dx, f194, am⟩ : ∃ l s' f', qaa T.grid.w (T.grid.h : Int).toNat [] cZ (((true && c9) && cz) && cY) = (l, s', f') := ⟨_, _, _, rfl⟩
 refine yK 16 (yC (qe7 ⟨du, dv, B, L⟩ (qz (Up.ch bi) hT (fun _ h => h.elim)).tb (by omega) (by omega) (by omega) (by omega) am) ?_); rintro _ dy ⟨bj, bk, bl, h1, rfl, dz, dA, bm, ac⟩; refine ⟨_, rfl, ?_⟩; have dB := zu bi ac (fun i hi h => h.elim (fun (h : i = sr) => by omega) (fun (h : i = rv) => by omega)); have dC : Ch (fun _ => True) a4 dy := zt (Ch.refl (fun _ => True) a4) ac (fun _ _ _ => trivial); have dD := aN.ch ac (fun h => h.elim M m); have dE := dt.ch ac (fun h => h.elim N r); have dF := aO.ch ac (fun h => h.elim j f); have dG := dw.ch ac (fun h => h.elim (fun (h : aw = sr) => by have := bf.lt; omega) (fun (h : aw = rv) => by have := bg.lt; omega)); refine q9 <| yd [17, 18] [] .z <| qfl [4, 5, 60, 61, 62, 82, 84] (f' := [(4, pX sr), (5, pX t), (60, .slice (some ⟨aw, 0, none⟩) 2 2), (61, iX 2), (62, iX 0), (82, .slice (bj.map at0) bk bl), (84, .pointer (some ⟨g, 2, none⟩))]) <| yK 19 (yT [iX T.grid.w, iX T.grid.h, .slice (bj.map at0) bk bl] dD fun dH dI R => ?_); have dJ := zu dB R (fun i hi (h : i = g) => by omega); have dK : Ch (fun _ => True) a4 dH := zt dC R (fun _ _ _ => trivial); have dL := dE.ch R (fun h => aC h.symm); have dM := dF.ch R C; have dN := dG.ch R (fun (h : aw = g) => by have := bd.lt; omega); have dO := bm.blk.ch R (fun h => M h.symm); have dP := bm.rd.ch R (fun h => m h.symm) (fun (h : D = g) => by omega); have dQ := dz.ch R (fun b hb hl (h : b = g) => by omega); refine q9 <| yDe (nB (nS ?_)); refine q7 <| yp 2 [] (.q6 1 .z) <| yE (nU (yU1 ?_))
 refine yx 1 <| ys <| yct <| yk <| ys <| q8 <| ysr <| yp 3 [] (.i 1 (2) (.l (dN.c 1) .z)) <| ye <| yD [16, 19] fun ad h2 S => ?_; have bo := zu dJ S iZ; have dR : Ch (fun _ => True) a4 ad := zt dK S (fun _ _ _ => trivial); have dS := dL.ch S id; have aP := dM.ch S id; have dT := dO.ch S id; have dU := dP.ch S id id; have bp := dQ.ch S (fun _ _ _ h => h); have aQ := dI.ch S id; refine yd (uL 0 16) [] (.l (aP.c 0) (.l (aQ.c 0) (.l (aP.c 0) (.l (aQ.c 1) .z)))) ?_; have h3 : a4.heap.size ≤ ad.heap.size := zs dR; obtain ⟨h4, dV, f239, an⟩ : ∃ l s' f', qaa T.grid.w (T.grid.h : Int).toNat [] dx f194 = (l, s', f') := ⟨_, _, _, rfl⟩
 have dW := bp.under; refine yK 16 (yC (qe7 ⟨dT, dU, B, L⟩ (qz (Up.ch bo) hT (fun _ h => h.elim)).tb (by omega) (by omega) (by omega) (by omega) an) ?_); rintro _ dX ⟨dY, dZ, e0, h5, rfl, e1, e2, bq, ae⟩; refine ⟨_, rfl, ?_⟩; have e3 := zu bo ae (fun i hi h => h.elim (fun (h : i = sr) => by omega) (fun (h : i = rv) => by omega)); have e4 : Ch (fun _ => True) ad dX := zt (Ch.refl (fun _ => True) ad) ae (fun _ _ _ => trivial); have e5 := dS.ch ae (fun h => h.elim N r); have e6 := aP.ch ae (fun h => h.elim j f); have e7 := bp.ch ae (fun b hb hl h => h.elim (fun (h : b = sr) => by omega) (fun (h : b = rv) => by omega)); have e8 := aQ.ch ae (fun h => h.elim M m); refine q9 <| yd [17, 18] [] .z <| yK 19 (yT [iX T.other.w, iX T.other.h, .slice (dY.map at0) dZ e0] e5 fun k e9 U => ?_); have br := zu e3 U (fun i hi (h : i = q) => by omega); have ea : Ch (fun _ => True) ad k := zt e4 U (fun _ _ _ => trivial); have eb := e6.ch U E; have ec := e7.ch U (fun b hb hl (h : b = q) => by omega); have ed := e8.ch U aC; have ee := bq.blk.ch U (fun h => N h.symm); have ef := bq.rd.ch U (fun h => r h.symm) (fun (h : D = q) => by omega); have bs := e1.ch U (fun b hb hl (h : b = q) => by omega); refine q9 <| yDe (nB (nS ?_)); refine q7 <| yp 2 [] (.q6 2 .z) <| yE (nU (yU1 ?_)); refine yx 1 <| ys <| ycf <| qk (eS (qf (qe (nS ?_)))); refine ysr <| yq 2 ?_; have h6 : ad.heap.size ≤ k.heap.size := zs ea; obtain ⟨ax, eg, f273, ao⟩ : ∃ l s' f', qft dV f239 = (l, s', f') := ⟨_, _, _, rfl⟩
 have eh := bs.under; refine yo (yC (qmU ⟨ee, ef, B, L⟩ (qz (Up.ch br) hT (fun _ h => h.elim)).tb (by omega) (by omega) ao) ?_); rintro _ ei ⟨ay, az, aA, h8, rfl, ej, ek, bt, a5⟩; refine ⟨_, rfl, ?_⟩; have el := zu br a5 (fun i hi h => h.elim (fun (h : i = sr) => by omega) (fun (h : i = rv) => by omega)); have em : Ch (fun _ => True) k ei := zt (Ch.refl (fun _ => True) k) a5 (fun _ _ _ => trivial); have en := eb.ch a5 (fun h => h.elim j f); have eo := ec.ch a5 (fun b hb hl h => h.elim (fun (h : b = sr) => by omega) (fun (h : b = rv) => by omega)); have ep := ed.ch a5 (fun h => h.elim M m); have er := bs.ch a5 (fun b hb hl h => h.elim (fun (h : b = sr) => by omega) (fun (h : b = rv) => by omega)); have es := e9.ch a5 (fun h => h.elim N r); refine yq 5 <| yo (yS en fun et eu F => ?_); have ev := zu el F (fun i hi (h : i = t) => by omega); have ew : Ch (fun _ => True) k et := zt em F (fun _ _ _ => trivial); have ex := eo.ch F (fun b hb hl (h : b = t) => by omega); have ey := ep.ch F (fun h => C h.symm); have ez := er.ch F (fun b hb hl (h : b = t) => by omega); have eA := es.ch F (fun h => E h.symm); have eB := bt.blk.ch F (fun h => j h.symm); have eC := bt.rd.ch F (fun h => f h.symm) (fun (h : D = t) => by omega); have eD := ej.ch F (fun b hb hl (h : b = t) => by omega); have eE : Blk _ t (TS.vals ({ T with back := ax, cursor := Y, saved := a9, away := aj } : TS) g q (.slice (ay.map at0) az aA) (.slice pa pn pc)) qV := Blk.to eu (by kernel_rfl); refine ye <| ys <| qY (· = rv) [11, 14, 17] (by kernel_rfl) (fun eF h9 s => ?_)
 have eG := zu ev s iZ; have eH : Ch (fun _ => True) k eF := zt ew s (fun _ _ _ => trivial); have eI := ex.ch s (fun _ _ _ h => h); have eJ := ey.ch s id; have eK := ez.ch s (fun _ _ _ h => h); have eL := eA.ch s id; have aR := eB.ch s id; have eM := eC.ch s id id; have eN := eD.ch s (fun _ _ _ h => h); have eO := eE.ch s id; refine ydC [0, 1, 2, 3, 4, 5, 7, 8, 9, 10] [] (fun u hu => (.l (qg hu (aR.c 0) av) (.l (qg hu (aR.c 0) av) .z))) ?_; obtain ⟨aS, eP, ap⟩ : ∃ x s', qaW 40 eg = (x, s') := ⟨_, _, rfl⟩
 refine yH 6 (yQ (qcO (most := 40) eM ap (by decide)) ?_); rintro eQ ⟨eR, y⟩; have eT := zu eG y (fun i hi (h : i = rv) => by omega); have eU : Ch (fun _ => True) k eQ := zt eH y (fun _ _ _ => trivial); have eV := eI.ch y (fun b hb hl (h : b = rv) => by omega); have eW := eJ.ch y m; have eX := eK.ch y (fun b hb hl (h : b = rv) => by omega); have eY := eL.ch y r; have eZ := aR.ch y av; have fa := eN.ch y (fun b hb hl (h : b = rv) => by omega); have fb := eO.ch y f; refine qo y iZ ?_; obtain ⟨bu, fc, aq⟩ : ∃ x s', qaW 400 eP = (x, s') := ⟨_, _, rfl⟩
 refine yK 11 (yQ (qcO (most := 400) eR aq (by decide)) ?_); rintro fd ⟨fe, G⟩; have ff := zu eT G (fun i hi (h : i = rv) => by omega); have fg : Ch (fun _ => True) k fd := zt eU G (fun _ _ _ => trivial); have fh := eV.ch G (fun b hb hl (h : b = rv) => by omega); have fi := eW.ch G m; have fj := eX.ch G (fun b hb hl (h : b = rv) => by omega); have fk := eY.ch G r; have fl := eZ.ch G av; have fm := fa.ch G (fun b hb hl (h : b = rv) => by omega); have fn := fb.ch G f; refine q9 <| yd [12, 13] [] .z <| yK 14 (yS fn fun fo fp H => ?_); have fq := zu ff H (fun i hi (h : i = t) => by omega); have fr : Ch (fun _ => True) k fo := zt fg H (fun _ _ _ => trivial); have fs := fh.ch H (fun b hb hl (h : b = t) => by omega); have ft := fi.ch H (fun h => C h.symm); have fu := fj.ch H (fun b hb hl (h : b = t) => by omega); have fv := fk.ch H (fun h => E h.symm); have fw := fl.ch H (fun h => j h.symm); have fx := fm.ch H (fun b hb hl (h : b = t) => by omega); have fy := fe.ch H (fun h => f h.symm) (fun (h : D = t) => by omega); have fz : Blk _ t (TS.vals ({ T with back := ax, cursor := Y, saved := a9, away := aj, title := aS } : TS) g q (.slice (ay.map at0) az aA) (.slice pa pn pc)) qV := Blk.to fp (by kernel_rfl); refine q9 <| yd [15, 16] [] .z <| yK 17 (yS fz fun a6 fA I => ?_); have bv := zu fq I (fun i hi (h : i = t) => by omega); have fB : Ch (fun _ => True) k a6 := zt fr I (fun _ _ _ => trivial); have fC := fs.ch I (fun b hb hl (h : b = t) => by omega); have fD := ft.ch I (fun h => C h.symm)
 have fE := fu.ch I (fun b hb hl (h : b = t) => by omega); have fF := fv.ch I (fun h => E h.symm); have fG := fw.ch I (fun h => j h.symm); have bw := fx.ch I (fun b hb hl (h : b = t) => by omega); have fH := fy.ch I (fun h => f h.symm) (fun (h : D = t) => by omega); have fI : Blk _ t (TS.vals ({ T with back := ax, cursor := Y, saved := a9, away := aj, title := aS, reply := bu } : TS) g q (.slice (ay.map at0) az aA) (.slice pa pn pc)) qV := Blk.to fA (by kernel_rfl); refine q9 <| yDe (nS ?_); refine ysr <| yq 2 ?_; have ha : k.heap.size ≤ a6.heap.size := zs fB; obtain ⟨J, fJ, f392, ar⟩ : ∃ p s' f', qi3 fc f273 = (p, s', f') := ⟨_, _, _, rfl⟩
 have fK := bw.under; refine yo (yC (qiR ⟨fG, fH, B, L⟩ (qz (Up.ch bv) hT (fun _ h => h.elim)).ut (by omega) (by omega) ar) ?_); rintro _ fL ⟨fM, fN, fO, rfl, fP, bx, bz, V⟩; refine ⟨_, rfl, ?_⟩; have fQ := zu bv V (fun i hi h => h.elim (fun (h : i = sr) => by omega) (fun (h : i = rv) => by omega)); have fR : Ch (fun _ => True) a6 fL := zt (Ch.refl (fun _ => True) a6) V (fun _ _ _ => trivial); have fS := fC.ch V (fun b hb hl h => h.elim (fun (h : b = sr) => by omega) (fun (h : b = rv) => by omega)); have fT := fD.ch V (fun h => h.elim M m); have fU := fE.ch V (fun b hb hl h => h.elim (fun (h : b = sr) => by omega) (fun (h : b = rv) => by omega)); have fV := fF.ch V (fun h => h.elim N r); have fW := bw.ch V (fun b hb hl h => h.elim (fun (h : b = sr) => by omega) (fun (h : b = rv) => by omega)); have fX := fI.ch V (fun h => h.elim j f); refine yq 5 <| yo (yS fX fun fY fZ A => ?_); have bA := zu fQ A (fun i hi (h : i = t) => by omega); have g0 : Ch (fun _ => True) a6 fY := zt fR A (fun _ _ _ => trivial); have g3 := fS.ch A (fun b hb hl (h : b = t) => by omega); have g4 := fT.ch A (fun h => C h.symm); have g5 := fU.ch A (fun b hb hl (h : b = t) => by omega); have g6 := fV.ch A (fun h => E h.symm); have g7 := fW.ch A (fun b hb hl (h : b = t) => by omega); have bB := bz.blk.ch A (fun h => j h.symm); have g8 := bz.rd.ch A (fun h => f h.symm) (fun (h : D = t) => by omega); have g9 := fP.ch A (fun b e (h : b = t) => by have := bx b e; omega); have ga : Blk _ t (TS.vals ({ T with back := ax, cursor := Y, saved := a9, away := aj, title := aS, reply := bu, parser := { T.parser with state := J.state, marks := J.marks, text := J.text, within := J.within, utf := ⟨J.utf.b0, J.utf.b1, J.utf.b2, J.utf.n⟩, params := J.params } } : TS) g q (.slice (ay.map at0) az aA) (.slice (fM.map at0) fN fO)) qV := Blk.to fZ (by kernel_rfl)
 refine ye <| ys <| ysr <| yp 6 [] (.l (bB.c 1) .z) <| yw [117] (rN (rY f392)) (fun aT => ?_) fun aT => ?_
 ·have gb := aT; refine yz 13 <| yct <| yx 2 <| qd (rS (yR2 [.pointer none, iX 1] .z ?_)); rw [qdL hH, qeD ah ai ak am an ao ap aq ar] at hX; rw [if_neg (fun h => absurd (gb.symm.trans h.1) (by decide))] at hX; exact ⟨_, _, rfl, Up.ch bA, .inl ⟨hX.symm, rfl, rfl⟩⟩
 have bC := aT; refine yp 10 [] (.l (bB.c 0) .z) <| yo (yQ (done_any g8) fun bD K => ?_); have bE := zu bA K iZ; have gc : Ch (fun _ => True) a6 bD := zt g0 K (fun _ _ _ => trivial); have gd := g3.ch K (fun _ _ _ h => h); have gf := g4.ch K id; have gg := g5.ch K (fun _ _ _ h => h); have gh := g6.ch K id; have gi := g7.ch K (fun _ _ _ h => h); have gj := g9.ch K iZ; have gk := ga.ch K id; refine yz 13 <| yc (rN (rY (decide (fJ = some [])))) (fun aU => ?_) fun aU => ?_
 ·have gl := aU; refine yx 2 <| qd (rS (yR2 [.pointer none, iX 1] .z ?_)); rw [qdL hH, qeD ah ai ak am an ao ap aq ar] at hX; rw [if_neg (fun h => of_decide_eq_false gl h.2)] at hX; exact ⟨_, _, rfl, Up.ch bE, .inl ⟨hX.symm, rfl, rfl⟩⟩
 have bF := aU; refine yk <| yx 3 <| qd (yR2 [pX t, iX 0] .z ?_); rw [qdL hH, qeD ah ai ak am an ao ap aq ar] at hX; have hc : a6.heap.size ≤ bD.heap.size := zs gc; rw [if_pos ⟨bC, of_decide_eq_true bF⟩] at hX; obtain rfl := hX.symm; have bG := qdL hH; rw [qeD ah ai ak am an ao ap aq ar, if_pos ⟨bC, of_decide_eq_true bF⟩] at bG; obtain ⟨_, _, _, gm⟩ := qmC bJ bG; have gn := qmZ hH; have bH := gh; rw [gn] at bH; exact ⟨_, _, rfl, Up.ch bE, .inr ⟨t, _, rfl, rfl, rfl, term_of gm (Blk.to gk (by kernel_rfl)) gf bH gd gg gi gj bx dA.symm e2.symm ek.symm dW eh fK h7 (by omega) (by omega) (by omega) C E aC (by omega)⟩⟩
theorem qbG : qb4 [] = [] := rfl
theorem qbb (x : Int) (l : List Int) : qb4 (x :: l) = qch x.toNat ++ qb4 l := rfl
theorem qn0 {w : World} {b o : Nat} {l : List Bool} (h : Rd w (some ⟨b, o, none⟩) (l.map Value.bool)) {k : Nat} (hk : k < l.length) : w.cell? ⟨b, o + ((k : Nat) : Int).toNat * 1, none⟩ = some (.bool (lb l k)) := by
 rw [Int.toNat_natCast, Nat.mul_one]; refine qbs h k _ ?_; rw [List.getElem?_map, List.getElem?_eq_getElem hk]; simp [lb, List.getD, List.getElem?_eq_getElem hk]
theorem qfc (l : List Bool) (h : l.length ≤ 60) : qbp l < 2 ^ 60 := Nat.lt_of_lt_of_le (qdF _ _) (Nat.pow_le_pow_right (by decide) h)
structure CurB (c : Cur) : Prop where
  x : 0 ≤ c.x ∧ c.x ≤ 1000
  y : 0 ≤ c.y ∧ c.y ≤ 1000
  s : qA c.sty = true
structure ParB (p : PS) : Prop where
  st : 0 ≤ p.state ∧ p.state ≤ 1000
  wi : 0 ≤ p.within ∧ p.within ≤ 1000
  u : 0 ≤ p.utf.n ∧ p.utf.n ≤ 3
  ub : qfq p.utf.pend
  m : p.marks.size ≤ 1000
  n : p.params.length ≤ 1000
  b : ∀ x ∈ p.params, 0 ≤ x ∧ x ≤ 9999
  t : p.text.size ≤ 1000
theorem qeE {u : US} (h : 0 ≤ u.n ∧ u.n ≤ 3) : u.pend.length = u.n.toNat := by
 unfold US.pend; rw [List.length_take]; simp only [List.length_cons, List.length_nil]; omega
theorem qiS {w : World} {b : Nat} {c : Value} {r : List Value} {T : TypeId} {u : US} (h : Blk w b (c :: uX u.b0 :: uX u.b1 :: uX u.b2 :: r) T) : Rd w (some ⟨b, 1, none⟩) (u.pend.map (Value.int .u8)) := by
 refine Rd.blk h fun j hj => ?_; unfold US.pend at hj ⊢; rw [List.length_map, List.length_take] at hj; rw [List.map_take, List.getElem?_take, if_pos (by omega), Nat.add_comm]; simp only [List.length_cons, List.length_nil] at hj; obtain rfl | rfl | rfl : j = 0 ∨ j = 1 ∨ j = 2 := by omega
 ·rfl
 ·rfl
 rfl
set_option maxHeartbeats 4000000 in
theorem qfd (fb fo kn : Nat) (l : List Bool) (w : World) (hr : Rd w (some ⟨fb, fo, none⟩) (l.map Value.bool)) (hl : l.length = kn) (hn : kn ≤ 60) : Calls Tryz.prog 21 [.slice (some ⟨fb, fo, none⟩) kn kn].toArray w fun e w' => e = .returned (.int .u64 ((qbp l : Nat) : Int)) ∧ Ch (fun _ => False) w w' := by
 refine yA Tryz.func21 rfl <| yx 1 <| yx 1 <| ys <| yx 3 <| q8 <| qN [3, 6, 7, 8] (f' := [(3, .int .u64 0), (6, .slice (some ⟨fb, fo, none⟩) kn kn), (7, iX ((kn : Nat) : Int)), (8, iX 0)]) <| qw (σ := Nat × Int) (fun ⟨k, x⟩ => [(3, .int .u64 x), (6, .slice (some ⟨fb, fo, none⟩) kn kn), (7, iX ((kn : Nat) : Int)), (8, iX ((k : Nat) : Int))]) (fun ⟨k, x⟩ u => k ≤ kn ∧ x = ((qao (lb l) k : Nat) : Int) ∧ Ch (fun _ => False) w u) (fun ⟨k, x⟩ => kn - k) (0, 0) rfl ?_ ?_
 ·exact ⟨Nat.zero_le _, rfl, Ch.refl _ _⟩
 intro p n f r d; obtain ⟨k, x⟩ := p; obtain ⟨hk, hx, b⟩ := f; have g := qdF (lb l) k; have h := zu (zm w) b iZ; have j := Ch.rd b hr id; refine yx 1 <| ys <| yc (rL ((k : Nat) : Int) ((kn : Nat) : Int)) (fun m => ?_) fun m => ?_
 ·refine yk <| ys <| q8 <| ysr <| yp 5 [] (.i ((k : Nat) : Int) (kn) (.l (o := (fo + (((k : Nat) : Int)).toNat * 1)) (qn0 j (k := k) (by omega)) .z)) <| ye <| yx 1 <| yc (rY (lb l k)) (fun c => ?_) fun c => ?_
  ·refine q7 <| yp 5 [] (.p (q := 0 ≤ (((k : Nat) : Int) : Int)) (by omega) .z) <| yE (nB (nS ?_)); refine q7 <| yp 2 [] (.q6 (((k : Nat) : Int) + 1) .z) <| yE (fun a ha => d (k + 1, orF x k) _ ⟨by omega, by rw [hx, orF_eq (by omega) g, qao, c, if_pos rfl], b⟩ (by show kn - (k + 1) < kn - k; omega) a (ha.kp [3, 6, 7, 8]))
  refine qp (nB (nS ?_)); refine q7 <| yp 2 [] (.q6 (((k : Nat) : Int) + 1) .z) <| yE (fun a ha => d (k + 1, x) _ ⟨by omega, by rw [hx, qao, c]; simp, b⟩ (by show kn - (k + 1) < kn - k; omega) a (ha.kp [3, 6, 7, 8]))
 refine qk (eS (qf (qe (nS ?_)))); refine yx 2 <| qd (yR1 (.int .u64 x) ?_); exact ⟨by rw [hx, show k = kn by omega, ← hl]; rfl, Up.ch h⟩
set_option maxHeartbeats 4000000 in
theorem qe8 {o : Option Nat} {n cap : Nat} {xs : List Int} {w : World} (hO : Own w tU8 1 o n cap (u8s xs)) (c : Cur) (hc : CurB c) (hz : n + 40 ≤ 1000000000) : Calls Tryz.prog 22 [.slice (o.map at0) n cap, .agg #[iX c.x, iX c.y, .bool c.late, .bool c.sty.bold, .bool c.sty.under, .bool c.sty.turned, iX c.sty.fore, iX c.sty.back]].toArray w fun e w' => ∃ o' n' cap', e = .returned (.slice (o'.map at0) n' cap') ∧ Own w' tU8 1 o' n' cap' (u8s (xs ++ qkJ c)) ∧ n' ≤ n + 40 ∧ App w w' o o' := by
 have a9 := qjD hc.s; have aa := qfc [c.late] (by simp); have ab := hc.x; have ac := hc.y; refine yA Tryz.func22 rfl <| ysr <| yo (yN [iX c.x, iX c.y, .bool c.late, .bool c.sty.bold, .bool c.sty.under, .bool c.sty.turned, iX c.sty.fore, iX c.sty.back] 46 fun ad I ae af J A => ?_); have f := zv (b := I) hO; have K := hO.ch A iZ; have L := (App.refl w o).step A iZ; refine yz 2 <| ys <| qY (fun b => o = some b) [15] (by kernel_rfl) (fun ag ah t => ?_); have B := K.ch t iZ; have M := L.step t iZ; have g := J.ch t id; refine ydC [0, 1, 2, 3, 4, 5, 6, 7, 8, 13, 14] [3, 6] (fun u hu => (.l (qg hu (g.c 0) (fun h => f _ h rfl)) (.p (q := InR .u64 c.x) (qaD (by omega) (by omega)) (.l (qg hu (g.c 1) (fun h => f _ h rfl)) (.p (q := InR .u64 c.y) (qaD (by omega) (by omega)) (.l (qg hu (g.c 2) (fun h => f _ h rfl)) (.a (qE hu (g.cs 3 5) (fun h => f _ h rfl)) .z))))))) <| yH 9 (yB [.bool c.late] 4 1 fun ai C aj ak D k => ?_); have E := zv (b := C) B; have N := B.ch k iZ; have O := M.step k iZ; have P := g.ch k id; refine qo k eZ <| yH 10 (yQ (qfd C 0 1 [c.late] _ (Rd.all (cs := [c.late].map Value.bool) D) rfl (by decide)) fun al i => ?_); have F := N.ch i iZ; have Q := O.step i iZ; have R := P.ch i id; have S := D.ch i id; refine qo i eZ <| yH 11 (yB [.int .u64 c.x, .int .u64 c.y, .int .u64 ((qbp [c.late] : Nat) : Int)] 61 3 fun am T an ao m j => ?_); have v := zv (b := T) F; have U := F.ch j iZ; have V := Q.step j iZ; have G := R.ch j id
 have H := S.ch j id; refine qo j eZ <| yH 12 (yC (qdd 3 [c.x, c.y, ((qbp [c.late] : Nat) : Int)] U (Rd.all m) (bC (bC (bC bN))) m.lt v) ?_); rintro _ ap ⟨aq, ar, au, rfl, W, av, d⟩; refine ⟨_, rfl, ?_⟩; have X := d.apart G.lt f; have Y := d.apart H.lt E; have Z := d.apart m.lt v; have a0 := V.trans d; have a1 := G.ch d.ch (fun h => f _ h rfl); have a2 := H.ch d.ch (fun h => E _ h rfl); have a3 := m.ch d.ch (fun h => v _ h rfl); refine qo d.ch iZ <| yK 15 (yC (qcQ W c.sty hc.s (by omega)) ?_); rintro _ aw ⟨a4, a5, a6, rfl, a7, ax, r⟩; refine ⟨_, rfl, ?_⟩; have ay := r.apart a1.lt X; have az := r.apart a2.lt Y; have aA := r.apart a3.lt Z; have a8 := a0.trans r; refine q9 <| yd [16] [] .z <| yDe (nS ?_); refine qd (yR1 (.slice (a4.map at0) a5 a6) ?_); exact ⟨_, _, _, rfl, by have h := a7; unfold qkJ; simp only [qbb, qbG, List.append_assoc, List.append_nil, Int.toNat_natCast] at h ⊢; exact h, by omega, a8⟩
set_option maxHeartbeats 4000000 in
theorem qkT {o : Option Nat} {n cap : Nat} {xs : List Int} {w : World} (hO : Own w tU8 1 o n cap (u8s xs)) (p : PS) (hp : ParB p) (pa : Option Addr) (pn pc : Nat) (hq : Rd w pa (p.params.map (Value.int .i64))) (hql : p.params.length = pn) (hqz : pn = 0 ∨ ∃ b f, pa = some ⟨b, f, none⟩) (hpne : ∀ x, o = some x → ∀ b f, pa = some ⟨b, f, none⟩ → ¬ x = b) (hz : n + 20000 ≤ 1000000000) : Calls Tryz.prog 24 [.slice (o.map at0) n cap, .agg (p.vals (.slice pa pn pc)).toArray].toArray w fun e w' => ∃ o' n' cap', e = .returned (.slice (o'.map at0) n' cap') ∧ Own w' tU8 1 o' n' cap' (u8s (xs ++ qkK p)) ∧ n' ≤ n + 20000 ∧ App w w' o o' := by
 have cr := hp.st; have cs := hp.wi; have ct := hp.u; have cu := hp.m; have cv := hp.n; have cw := hp.t; have cx := qeE hp.u; have cy := qcN p.utf.pend; refine yA Tryz.func24 rfl <| ysr <| yo (yN [iX p.state, uX p.utf.b0, uX p.utf.b1, uX p.utf.b2, iX p.utf.n, .string p.marks, .slice pa pn pc, .string p.text, iX p.within] 55 fun wb bx cz cA aK af => ?_); have d := zv (b := bx) hO; have aL := hO.ch af iZ; have aM := (App.refl w o).step af iZ; refine yz 2 <| qd4 (σ := Option Nat × Nat × Nat) (fun ⟨v, J, N⟩ => [(0, .slice (v.map at0) J N), (3, pX bx)]) (fun ⟨v, J, N⟩ u => Own u tU8 1 v J N (u8s ((xs ++ qb4 [p.state, p.within]) ++ qhV (qq p.utf.pend))) ∧ App w u o v ∧ J ≤ n + 100 ∧ Blk u bx [iX p.state, uX p.utf.b0, uX p.utf.b1, uX p.utf.b2, iX p.utf.n, .string p.marks, .slice pa pn pc, .string p.text, iX p.within] 55 ∧ ∀ b, v = some b → ¬ b = bx) (fun cB a2 => ?_) (fun gs u18 aN => ?_)
 ·refine qY (fun b => o = some b) [16] (by kernel_rfl) (fun aO cC a3 => ?_); have O := aL.ch a3 iZ; have ag := aM.step a3 iZ; have A := aK.ch a3 id; refine ydC [0, 1, 2, 3, 4, 5, 6, 9, 10, 11, 12, 13, 14] [3, 6] (fun u hu => (.l (qg hu (A.c 0) (fun h => d _ h rfl)) (.p (q := InR .u64 p.state) (qaD (by omega) (by omega)) (.l (qg hu (A.c 8) (fun h => d _ h rfl)) (.p (q := InR .u64 p.within) (qaD (by omega) (by omega)) (.l (qg hu (A.c 4) (fun h => d _ h rfl)) (.j p.utf.n (3) .z))))))) <| qbl 7 15 (by kernel_rfl) (by decide) ?_ ?_
  ·refine qav 7 _ (by kernel_rfl) rfl (yB [.int .u64 p.state, .int .u64 p.within] 61 2 fun aP aQ cD cE g P => ?_); have B := zv (b := aQ) O; have ah := O.ch P iZ; have ai := ag.step P iZ; have K := A.ch P id; refine qo P eZ <| qbl 8 15 (by kernel_rfl) (by decide) ?_ ?_
   ·refine qav 8 _ (by kernel_rfl) rfl (yC (qdd 2 [p.state, p.within] ah (Rd.all g) (bC (bC bN)) g.lt B) ?_); rintro _ aR ⟨cF, cG, cH, rfl, aS, cI, C⟩; refine ⟨_, rfl, ?_⟩; have aj := C.apart K.lt d; have aT := C.apart g.lt B; have aU := ai.trans C; have a4 := K.ch C.ch (fun h => d _ h rfl); have aV := g.ch C.ch (fun h => B _ h rfl); refine qo C.ch iZ <| yH 15 (qbQ (some ⟨bx, 1, none⟩) (p.utf.n : Int).toNat 3 p.utf.pend (some 22) (by kernel_rfl) (qiS a4) (qeE hp.u) ?_); refine qo (zr aR) eZ <| yK 16 (yC (qaz aS (qq p.utf.pend) (by omega)) ?_); rintro _ cJ ⟨aW, aX, aY, rfl, aZ, cK, Q⟩; refine ⟨_, rfl, ?_⟩; have b3 := Q.apart a4.lt aj; have cL := Q.apart aV.lt aT; have b4 := aU.trans Q; have b5 := a4.ch Q.ch (fun h => aj _ h rfl); refine q9 <| yd [17] [] .z <| yDe (fun a ha => a2 (aW, aX, aY) _ ⟨aZ, b4, by omega, b5, b3⟩ a (ha.kp [0, 3]))
   refine qav 15 _ (by kernel_rfl) rfl (qbQ (some ⟨bx, 1, none⟩) (p.utf.n : Int).toNat 3 p.utf.pend (some 22) (by kernel_rfl) (qiS K) (qeE hp.u) ?_); refine qo (zr aP) eZ <| yH 8 (yC (qdd 2 [p.state, p.within] ah (Rd.all g) (bC (bC bN)) g.lt B) ?_); rintro _ cM ⟨cN, cO, cP, rfl, b6, cQ, D⟩; refine ⟨_, rfl, ?_⟩; have ak := D.apart K.lt d; have b7 := D.apart g.lt B; have b8 := ai.trans D; have al := K.ch D.ch (fun h => d _ h rfl); have b9 := g.ch D.ch (fun h => B _ h rfl); refine qo D.ch iZ <| yK 16 (yC (qaz b6 (qq p.utf.pend) (by omega)) ?_); rintro _ cR ⟨ba, bb, bc, rfl, bd, cS, R⟩; refine ⟨_, rfl, ?_⟩; have bf := R.apart al.lt ak; have cT := R.apart b9.lt b7; have bg := b8.trans R; have bh := al.ch R.ch (fun h => ak _ h rfl); refine q9 <| yd [17] [] .z <| yDe (fun a ha => a2 (ba, bb, bc) _ ⟨bd, bg, by omega, bh, bf⟩ a (ha.kp [0, 3]))
  refine qav 15 _ (by kernel_rfl) rfl (qbQ (some ⟨bx, 1, none⟩) (p.utf.n : Int).toNat 3 p.utf.pend (some 22) (by kernel_rfl) (qiS A) (qeE hp.u) ?_); refine qo (zr aO) eZ <| yH 7 (yB [.int .u64 p.state, .int .u64 p.within] 61 2 fun cU bi cV cW S T => ?_); have a5 := zv (b := bi) O; have bj := O.ch T iZ; have bk := ag.step T iZ; have am := A.ch T id; refine qo T eZ <| yH 8 (yC (qdd 2 [p.state, p.within] bj (Rd.all S) (bC (bC bN)) S.lt a5) ?_); rintro _ cX ⟨cY, cZ, d0, rfl, bl, d1, E⟩; refine ⟨_, rfl, ?_⟩; have an := E.apart am.lt d; have bm := E.apart S.lt a5; have bn := bk.trans E; have ao := am.ch E.ch (fun h => d _ h rfl); have bo := S.ch E.ch (fun h => a5 _ h rfl); refine qo E.ch iZ <| yK 16 (yC (qaz bl (qq p.utf.pend) (by omega)) ?_); rintro _ d2 ⟨bp, bq, br, rfl, bs, d3, U⟩; refine ⟨_, rfl, ?_⟩; have bt := U.apart ao.lt an; have d4 := U.apart bo.lt bm; have bu := bn.trans U; have bv := ao.ch U.ch (fun h => an _ h rfl); refine q9 <| yd [17] [] .z <| yDe (fun a ha => a2 (bp, bq, br) _ ⟨bs, bu, by omega, bv, bt⟩ a (ha.kp [0, 3]))
 obtain ⟨v, J, N⟩ := gs; obtain ⟨bw, bz, d5, bA, F⟩ := aN; refine qd4 (σ := Option Nat × Nat × Nat) (fun ⟨r, s, G⟩ => [(0, .slice (r.map at0) s G), (3, pX bx)]) (fun ⟨r, s, G⟩ u => Own u tU8 1 r s G (u8s ((((xs ++ qb4 [p.state, p.within]) ++ qhV (qq p.utf.pend)) ++ qhV p.marks) ++ qb4 [((pn : Nat) : Int)])) ∧ App w u o r ∧ s ≤ n + 5000 ∧ Blk u bx [iX p.state, uX p.utf.b0, uX p.utf.b1, uX p.utf.b2, iX p.utf.n, .string p.marks, .slice pa pn pc, .string p.text, iX p.within] 55 ∧ ∀ b, r = some b → ¬ b = bx) (fun d6 ap => ?_) (fun gs u120 bB => ?_)
 ·refine qY (fun b => v = some b) [9] (by kernel_rfl) (fun d7 d8 a6 => ?_); have a7 := bw.ch a6 iZ; have aq := bz.step a6 iZ; have L := bA.ch a6 id; refine ydC [0, 1, 2, 4, 5, 6, 7] [7] (fun u hu => (.l (qg hu (L.c 5) (fun h => F _ h rfl)) (.l (qg hu (L.c 6) (fun h => F _ h rfl)) (.p (q := InR .u64 ((pn : Nat) : Int)) (qaD (by omega) (by omega)) .z)))) <| qbl 3 8 (by kernel_rfl) (by decide) ?_ ?_
  ·refine qav 3 _ (by kernel_rfl) rfl (yC (qaz a7 p.marks (by omega)) ?_); rintro _ d9 ⟨da, db, dc, rfl, ar, dd, V⟩; refine ⟨_, rfl, ?_⟩; have au := V.apart L.lt F; have bD := aq.trans V; have bE := L.ch V.ch (fun h => F _ h rfl); refine qo V.ch iZ <| yH 8 (yB [.int .u64 ((pn : Nat) : Int)] 61 1 fun de bF df dg a8 W => ?_); have av := zv (b := bF) ar; have aw := bE.ch W id; have bG := ar.ch W iZ; have bH := bD.step W iZ; refine qo W eZ <| yK 9 (yC (qdd 1 [((pn : Nat) : Int)] bG (Rd.all a8) (bC bN) a8.lt av) ?_); rintro _ dh ⟨bI, bJ, bK, rfl, bL, di, X⟩; refine ⟨_, rfl, ?_⟩; have bM := X.apart aw.lt au; have dj := X.apart a8.lt av; have bO := bH.trans X; have bP := aw.ch X.ch (fun h => au _ h rfl); refine q9 <| yd [10] [] .z <| yDe (fun a ha => ap (bI, bJ, bK) _ ⟨bL, bO, by omega, bP, bM⟩ a (ha.kp [0, 3]))
  refine qav 8 _ (by kernel_rfl) rfl (yB [.int .u64 ((pn : Nat) : Int)] 61 1 fun dk bQ dl dm ax Y => ?_); have ay := zv (b := bQ) a7; have bR := a7.ch Y iZ; have bS := aq.step Y iZ; have az := L.ch Y id; refine qo Y eZ <| yH 3 (yC (qaz bR p.marks (by omega)) ?_); rintro _ dn ⟨dp, dq, dr, rfl, bT, ds, H⟩; refine ⟨_, rfl, ?_⟩; have aA := H.apart az.lt F; have aB := H.apart ax.lt ay; have bU := bS.trans H; have aC := az.ch H.ch (fun h => F _ h rfl); have a9 := ax.ch H.ch (fun h => ay _ h rfl); refine qo H.ch iZ <| yK 9 (yC (qdd 1 [((pn : Nat) : Int)] bT (Rd.all a9) (bC bN) a9.lt aB) ?_); rintro _ dt ⟨bV, bW, bX, rfl, bY, du, Z⟩; refine ⟨_, rfl, ?_⟩; have bZ := Z.apart aC.lt aA; have dv := Z.apart a9.lt aB; have c0 := bU.trans Z; have c2 := aC.ch Z.ch (fun h => aA _ h rfl); refine q9 <| yd [10] [] .z <| yDe (fun a ha => ap (bV, bW, bX) _ ⟨bY, c0, by omega, c2, bZ⟩ a (ha.kp [0, 3]))
 obtain ⟨r, s, G⟩ := gs; obtain ⟨c3, c4, dw, aD, c5⟩ := bB; refine ys <| ysr <| yp 4 [] (.l (aD.c 6) .z) <| ye <| q8 <| qN [0, 3, 35, 36, 37] (f' := [(0, .slice (r.map at0) s G), (3, pX bx), (35, .slice pa pn pc), (36, iX ((pn : Nat) : Int)), (37, iX 0)]) <| qw (σ := Nat × Option Nat × Nat × Nat) (fun ⟨k, y, I, M⟩ => [(0, .slice (y.map at0) I M), (3, pX bx), (35, .slice pa pn pc), (36, iX ((pn : Nat) : Int)), (37, iX ((k : Nat) : Int))]) (fun ⟨k, y, I, M⟩ u => k ≤ pn ∧ Own u tU8 1 y I M (u8s (((((xs ++ qb4 [p.state, p.within]) ++ qhV (qq p.utf.pend)) ++ qhV p.marks) ++ qb4 [((pn : Nat) : Int)]) ++ (p.params.take k).flatMap (fun x => qch x.toNat))) ∧ App w u o y ∧ I ≤ s + 10 * k ∧ Blk u bx [iX p.state, uX p.utf.b0, uX p.utf.b1, uX p.utf.b2, iX p.utf.n, .string p.marks, .slice pa pn pc, .string p.text, iX p.within] 55 ∧ ∀ b, y = some b → ¬ b = bx) (fun ⟨k, y, I, M⟩ => pn - k) (0, r, s, G) rfl ?_ ?_
 ·exact ⟨Nat.zero_le _, by rw [List.take_zero]; exact (by rw [List.flatMap_nil, List.append_nil]; exact c3), c4, Nat.le_refl _, aD, c5⟩
 intro q dx c6 dy c9; obtain ⟨k, y, I, M⟩ := q; obtain ⟨hk, a0, aa, dz, ab, ac⟩ := c6; refine yx 1 <| ys <| yc (rL ((k : Nat) : Int) ((pn : Nat) : Int)) (fun ca => ?_) fun ca => ?_
 ·obtain ⟨pb, po, rfl⟩ := hqz.resolve_left (by omega); have dA := hp.b _ (qeB (l := p.params) (k := k) (by omega)); refine yk <| ys <| q8 <| ysr <| yp 3 [] (.i ((k : Nat) : Int) (pn) (.l (o := (po + (((k : Nat) : Int)).toNat * 1)) (qfb (Ch.rd aa.ch hq (fun h => hpne _ h _ _ rfl rfl)) (by omega)) .z)) <| ye <| q7 <| yp 3 [2] (.p (q := InR .u64 (p.params.getD k 0)) (qaD (by omega) (by omega)) .z) <| yo (yB [.int .u64 (p.params.getD k 0)] 61 1 fun dB cb dC dD ad ae => ?_); have aE := zv (b := cb) a0; have cc := a0.ch ae iZ; have cd := aa.step ae iZ; have aF := ab.ch ae id; refine yo (yC (qdd 1 [(p.params.getD k 0)] cc (Rd.all ad) (bC bN) ad.lt aE) ?_); rintro _ ce ⟨aG, aH, aI, rfl, cf, dE, a1⟩; refine ⟨_, rfl, ?_⟩; have cg := a1.apart aF.lt ac; have dF := a1.apart ad.lt aE; have ci := cd.trans a1; have cj := aF.ch a1.ch (fun h => ac _ h rfl); refine yq 6 <| yE (nB (nS ?_)); refine q7 <| yp 2 [] (.q6 (((k : Nat) : Int) + 1) .z) ?_; have ck : Own ce tU8 1 aG aH aI (u8s (((((xs ++ qb4 [p.state, p.within]) ++ qhV (qq p.utf.pend)) ++ qhV p.marks) ++ qb4 [((pn : Nat) : Int)]) ++ (p.params.take (k + 1)).flatMap (fun x => qch x.toNat))) := by
   have h := cf; rw [qmD (by omega)]; simp only [qbb, qbG, List.flatMap_append, List.flatMap_cons, List.flatMap_nil, List.append_assoc, List.append_nil] at h ⊢; exact h
  refine yE (fun a ha => c9 (k + 1, aG, aH, aI) _ ⟨by omega, ck, ci, by omega, cj, cg⟩ (by show pn - (k + 1) < pn - k; omega) a (ha.kp [0, 3, 35, 36, 37]))
 have cl : k = p.params.length := by omega
 rw [cl, List.take_length] at a0; refine qk (eS (qf (qe (nS ?_)))); refine ysr <| yp 3 [] (.l (ab.c 7) .z) <| yo (yC (qaz a0 p.text (by omega)) ?_); rintro _ dG ⟨cm, cn, co, rfl, cp, dH, aJ⟩; refine ⟨_, rfl, ?_⟩; have dI := aJ.apart ab.lt ac; have cq := aa.trans aJ; refine yz 5 <| qd (yR1 (.slice (cm.map at0) cn co) ?_); exact ⟨_, _, _, rfl, by have h := cp; unfold qkK; simp only [qbb, qbG, List.append_assoc, List.append_nil, Int.toNat_natCast] at h ⊢; rw [hql]; exact h, by omega, cq⟩
structure EncOk (T : TS) : Prop where
  w : 0 ≤ T.grid.w ∧ T.grid.w ≤ 1000
  h : 0 ≤ T.grid.h ∧ T.grid.h ≤ 1000
  t : (0 ≤ T.top ∧ T.top ≤ 1000) ∧ 0 ≤ T.bot ∧ T.bot ≤ 1000
  c : CurB T.cursor
  s : CurB T.saved
  a : CurB T.away
  g : T.grid.lines.length ≤ 60 ∧ ∀ l ∈ T.grid.lines, l.length ≤ 60 ∧ ∀ c ∈ l, cOk c
  o : T.other.lines.length ≤ 60 ∧ ∀ l ∈ T.other.lines, l.length ≤ 60 ∧ ∀ c ∈ l, cOk c
  k : T.back.length ≤ 60 ∧ ∀ l ∈ T.back, l.length ≤ 60 ∧ ∀ c ∈ l, cOk c
  ti : T.title.size ≤ 1000
  r : T.reply.size ≤ 1000
  p : ParB T.parser
theorem CurOk.b {W H : Int} {c : Cur} (h : CurOk W H c) (hW : W ≤ 60) (hH : H ≤ 60) : CurB c := ⟨⟨h.x.1, by have := h.x.2; omega⟩, ⟨h.y.1, by have := h.y.2; omega⟩, h.s⟩
theorem DecOk.enc {T : TS} (h : DecOk T) : EncOk T := by
 have hw := h.w; have hh := h.h; have ht := h.t; refine ⟨by omega, by omega, by omega, h.c.b hw.2 hh.2, h.s.b hw.2 hh.2, h.a.b hw.2 hh.2, ⟨by rw [h.g.1]; omega, fun l hl => ⟨by have := (h.g.2 l hl).1; omega, (h.g.2 l hl).2.2⟩⟩, ⟨by rw [h.g2.1]; omega, fun l hl => ⟨by have := (h.g2.2 l hl).1; omega, (h.g2.2 l hl).2.2⟩⟩, ⟨by have := h.k.1; omega, fun l hl => ⟨(h.k.2 l hl).2.1, (h.k.2 l hl).2.2.2⟩⟩, by have := h.ti; omega, by have := h.r; omega, ?_⟩; have hp := h.p; exact ⟨⟨hp.st.1, by have := hp.st.2; omega⟩, ⟨hp.wi.1, by have := hp.wi.2; omega⟩, hp.u.n, hp.u.pend, by have := hp.m; omega, by have := hp.n; omega, hp.b, by have := hp.t; omega⟩
theorem App.new {w w' : World} {o' : Option Nat} (h : App w w' none o') : ∀ b, o' = some b → w.heap.size ≤ b := fun b e => by
  rcases h.ne with rfl | ⟨g, rfl, hg⟩
  · cases e
  · cases e; exact hg
def qjP (f : Nat → Bool) : List Bool := (List.range 60).map f
theorem tabL_v (f : Nat → Bool) : (qjP f).map Value.bool = qfo f := by
 unfold qjP qfo; rw [List.map_map]; rfl
theorem tabL_f (f : Nat → Bool) : qbp (qjP f) = qao f 60 := by
 have hl : (qjP f).length = 60 := by simp [qjP]
 unfold qbp; rw [hl]; refine qbN fun i hi => ?_; unfold lb qjP; simp [List.getD, hi]
theorem tabs_rd {w : World} {t g o : Nat} {bk ps : Value} {T : TS} (h : Blk w t (T.vals g o bk ps) qV) : Rd w (some ⟨t, 28, none⟩) ((qjP T.tabs).map Value.bool) := by
 rw [tabL_v]; refine ⟨(fun e => by cases e), fun ad e j u hj => ?_⟩; cases e; have hl := (List.getElem?_eq_some_iff.1 hj).1; have a : j < 60 := by simpa [qfo] using hl
 have hu : u = .bool (T.tabs j) := by
  unfold qfo at hj; rw [List.getElem?_map, List.getElem?_range a] at hj; exact (zi hj).symm
 have := qgr h ((j : Nat) : Int) (by omega) (by omega); rw [Int.toNat_natCast, Nat.mul_one] at this; rw [qbu, hu]; exact this
theorem qcg {rows : List Row} {k : Nat} {q : Row} (h : rows[k]? = some q) : (rows.map Row.l).take (k + 1) = (rows.map Row.l).take k ++ [q.l] := by
 have hk : k < (rows.map Row.l).length := by rw [List.length_map]; exact (List.getElem?_eq_some_iff.1 h).1
 rw [List.take_succ_eq_append_getElem hk]; congr 2; have : (rows.map Row.l)[k]? = some q.l := by rw [List.getElem?_map, h]; rfl
 exact (List.getElem?_eq_some_iff.1 this).2
theorem qfe {rows : List Row} {k : Nat} (h : k < rows.length) : ∃ q, rows[k]? = some q ∧ q ∈ rows := ⟨_, List.getElem?_eq_getElem h, List.getElem_mem h⟩
set_option maxHeartbeats 4000000 in
theorem qe9 {w : World} {t : Nat} {T : TS} {F : Nat → Prop} (hA0 : TermAt w t T F) (he : EncOk T) : Calls Tryz.prog 12 [pX t].toArray w fun e w' =>
 ∃ o n cap, e = .returned (.slice (o.map at0) n cap) ∧ Own w' tU8 1 o n cap (u8s (qiL T)) ∧ n ≤ 1000000 ∧ (∀ b, o = some b → w.heap.size ≤ b) ∧ Ch (fun _ => False) w w' := by
 obtain ⟨g, q, ba, bn, bc, pa, pn, pc, F1, F2, FB, FP, hI⟩ := hA0; obtain ⟨r1, bg, v, D⟩ := hI.g1; obtain ⟨r2, bi, A, E⟩ := hI.g2; obtain ⟨ag, G, a4⟩ := hI.bk; have eM : bn ≤ 60 := by have h1 := G.len; have W := he.k.1; rw [← a4, List.length_map] at W; omega
 have eN := he.w; have eO := he.h; have eP := he.t; have eQ := he.ti; have eR := he.r; have eT := qfc [T.wrap, T.origin, T.insert, T.hidden, T.alt, T.draw0, T.draw1, T.shift] (by simp); have eU := qfc (qjP T.tabs) (by simp [qjP]); refine yA Tryz.func12 rfl <| yx 1 <| ys <| yD [26, 27] fun eV eW bj => ?_; have bl := (show Own w tU8 1 none 0 0 (u8s []) from Own.nil w tU8 1).ch bj iZ; have M := (App.refl w none).step bj iZ; refine yd (uL 0 26) [7, 15, 20, 25] (.l (qg (qC M.ch) (hI.blk.c 0) id) (.l (qg (qC M.ch) (D.head.c 0) id) (.p (q := InR .u64 T.grid.w) (qaD (by omega) (by omega)) (.l (qg (qC M.ch) (hI.blk.c 0) id) (.l (qg (qC M.ch) (D.head.c 1) id) (.p (q := InR .u64 T.grid.h) (qaD (by omega) (by omega)) (.l (qg (qC M.ch) (hI.blk.c 26) id) (.p (q := InR .u64 T.top) (qaD (by omega) (by omega)) (.l (qg (qC M.ch) (hI.blk.c 27) id) (.p (q := InR .u64 T.bot) (qaD (by omega) (by omega)) .z)))))))))) <| yK 26 (yB [.int .u64 T.grid.w, .int .u64 T.grid.h, .int .u64 T.top, .int .u64 T.bot] 61 4 fun eX aI cA eY ah bm => ?_); have aJ := zv (b := aI) bl; have eZ : w.heap.size ≤ aI := by rw [cA]; exact M.ch.size
 have cB := bl.ch bm iZ; have cC := M.step bm iZ; refine q9 <| yK 27 (yC (qdd 4 [T.grid.w, T.grid.h, T.top, T.bot] cB (Rd.all ah) (bC (bC (bC (bC bN)))) ah.lt aJ) ?_); rintro _ fa ⟨fb, fc, fd, rfl, cD, fe, aK⟩; refine ⟨_, rfl, ?_⟩; have bp := aK.apart ah.lt aJ; have cE := cC.trans aK; have cF := ah.ch aK.ch (fun h => aJ _ h rfl); refine q9 <| yd [28] [] .z <| yDe (nS ?_); refine ys <| yD [35, 36, 41, 42, 43] fun ff fg aL => ?_; have cG := cF.ch aL id; have bq := cD.ch aL iZ; have H := cE.step aL iZ; refine yd [0, 1, 2, 3, 4, 5, 6, 7, 8, 9, 10, 11, 12, 13, 14, 15, 16, 17, 18, 19, 20, 21, 22, 23, 24, 25, 26, 27, 28, 29, 30, 31, 32, 33, 34, 37, 38, 39, 40] [] (.l (qg (qC H.ch) (hI.blk.c 88) id) (.l (qg (qC H.ch) (hI.blk.c 89) id) (.l (qg (qC H.ch) (hI.blk.c 90) id) (.l (qg (qC H.ch) (hI.blk.c 91) id) (.l (qg (qC H.ch) (hI.blk.c 95) id) (.i 0 (2) (.l (qg (qC H.ch) (hI.blk.c 92) id) (.i 1 (2) (.l (qg (qC H.ch) (hI.blk.c 93) id) (.l (qg (qC H.ch) (hI.blk.c 94) id) .z)))))))))) <| yK 35 (yB [.bool T.wrap, .bool T.origin, .bool T.insert, .bool T.hidden, .bool T.alt, .bool T.draw0, .bool T.draw1, .bool T.shift] 4 8 fun fh ai cH fi br aM => ?_); have bs := zv (b := ai) bq; have fj : w.heap.size ≤ ai := by rw [cH]; exact H.ch.size
 have cI := cG.ch aM id; have cJ := bq.ch aM iZ; have cK := H.step aM iZ; refine q9 <| yK 36 (yQ (qfd ai 0 8 [T.wrap, T.origin, T.insert, T.hidden, T.alt, T.draw0, T.draw1, T.shift] _ (Rd.all (cs := [T.wrap, T.origin, T.insert, T.hidden, T.alt, T.draw0, T.draw1, T.shift].map Value.bool) br) rfl (by decide)) fun fk aj => ?_); have cL := cI.ch aj id; have cM := cJ.ch aj iZ; have bt := cK.step aj iZ; have cN := br.ch aj id; refine q9 <| yK 41 (yQ (qfd t 28 60 (qjP T.tabs) _ (Ch.rd (qC bt.ch) (tabs_rd hI.blk) id) (by simp [qjP]) (by decide)) fun fl ak => ?_); have cO := cL.ch ak id; have bu := cM.ch ak iZ; have bv := bt.step ak iZ; have cP := cN.ch ak id; refine q9 <| yK 42 (yB [.int .u64 ((qbp [T.wrap, T.origin, T.insert, T.hidden, T.alt, T.draw0, T.draw1, T.shift] : Nat) : Int), .int .u64 ((qbp (qjP T.tabs) : Nat) : Int)] 61 2 fun fm aN cQ fn al am => ?_); have aO := zv (b := aN) bu; have fo : w.heap.size ≤ aN := by rw [cQ]; exact bv.ch.size
 have bw := cO.ch am id; have cR := bu.ch am iZ; have cS := bv.step am iZ; have bx := cP.ch am id; refine q9 <| yK 43 (yC (qdd 2 [((qbp [T.wrap, T.origin, T.insert, T.hidden, T.alt, T.draw0, T.draw1, T.shift] : Nat) : Int), ((qbp (qjP T.tabs) : Nat) : Int)] cR (Rd.all al) (bC (bC bN)) al.lt aO) ?_); rintro _ fp ⟨fq, fr, fs, rfl, cT, ft, Q⟩; refine ⟨_, rfl, ?_⟩; have cU := Q.apart bw.lt bp; have cV := Q.apart bx.lt bs; have cW := Q.apart al.lt aO; have cX := cS.trans Q; have cY := bw.ch Q.ch (fun h => bp _ h rfl); have cZ := bx.ch Q.ch (fun h => bs _ h rfl); have d0 := al.ch Q.ch (fun h => aO _ h rfl); refine q9 <| yd [44] [] .z <| yDe (nS ?_); refine ys <| ys <| yD [12] fun fu fv a5 => ?_; have d1 := cY.ch a5 id; have d2 := cZ.ch a5 id; have d3 := d0.ch a5 id; have bA := cT.ch a5 iZ; have a6 := cX.step a5 iZ; refine yd [0, 1, 2, 3, 4, 5, 6, 7, 8, 9, 10, 11, 14] [] (.a (qE (qC a6.ch) (hI.blk.cs 2 8) id) (.a (qE (qC a6.ch) (hI.blk.cs 10 8) id) (.a (qE (qC a6.ch) (hI.blk.cs 18 8) id) .z))) <| yK 12 (yB [iX T.cursor.x, iX T.cursor.y, .bool T.cursor.late, .bool T.cursor.sty.bold, .bool T.cursor.sty.under, .bool T.cursor.sty.turned, iX T.cursor.sty.fore, iX T.cursor.sty.back, iX T.saved.x, iX T.saved.y, .bool T.saved.late, .bool T.saved.sty.bold, .bool T.saved.sty.under, .bool T.saved.sty.turned, iX T.saved.sty.fore, iX T.saved.sty.back, iX T.away.x, iX T.away.y, .bool T.away.late, .bool T.away.sty.bold, .bool T.away.sty.under, .bool T.away.sty.turned, iX T.away.sty.fore, iX T.away.sty.back] 46 3 fun fw a7 d4 fx aP a8 => ?_)
 have bB := zv (b := a7) bA; have fy : w.heap.size ≤ a7 := by rw [d4]; exact a6.ch.size
 have bD := d1.ch a8 id; have bE := d2.ch a8 id; have bF := d3.ch a8 id; have bG := bA.ch a8 iZ; have bH := a6.step a8 iZ; refine q9 <| yd [13] [] .z <| yDe (nS ?_); refine q8 <| yU 4 (yU1 ?_); refine yx 1 <| ys <| yct <| yk <| ys <| q8 <| ysr <| yp 2 [] (.i 0 (3) (.a (aP.cs 0 8) .z)) <| yo (yN [iX 0, iX 0, .bool false, .bool false, .bool false, .bool false, iX 0, iX 0] 46 fun fz N d5 fA d6 X => ?_); have bI := zv (b := N) bG; have d7 : w.heap.size ≤ N := by rw [d5]; exact bH.ch.size
 have d8 := bD.ch X id; have d9 := bE.ch X id; have da := bF.ch X id; have db := bG.ch X iZ; have dc := bH.step X iZ; have dd := aP.ch X id; refine yo (yT [iX T.cursor.x, iX T.cursor.y, .bool T.cursor.late, .bool T.cursor.sty.bold, .bool T.cursor.sty.under, .bool T.cursor.sty.turned, iX T.cursor.sty.fore, iX T.cursor.sty.back] d6 fun fB bJ Y => ?_); have de := d8.ch Y (fun (h : aI = N) => by have := bD.lt; omega); have df := d9.ch Y (fun (h : ai = N) => by have := bE.lt; omega); have dg := da.ch Y (fun (h : aN = N) => by have := bF.lt; omega); have dh := db.ch Y (fun b e (h : b = N) => bI b e h); have di := dc.step Y (fun i hi (h : i = N) => by have := d7; omega); have bK := dd.ch Y (fun (h : a7 = N) => by have := aP.lt; omega); refine ye <| q7 <| yp 2 [] (.a (bJ.cs 0 8) .z) <| yo (yC (qe8 dh T.cursor he.c (by omega)) ?_); rintro _ fC ⟨fD, fE, fF, rfl, bL, fG, R⟩; refine ⟨_, rfl, ?_⟩; have fH := R.apart de.lt cU; have fI := R.apart df.lt cV; have fJ := R.apart dg.lt cW; have bM := R.apart bK.lt bB; have fK := R.apart bJ.lt bI; have bO := di.trans R; have aQ := bK.ch R.ch (fun h => bB _ h rfl); refine yq 4 <| yE (nB (nS ?_)); refine q7 <| yp 2 [] (.q6 1 .z) <| yE (nU (yU1 ?_)); refine yx 1 <| ys <| yct <| yk <| ys <| q8 <| ysr <| yp 2 [] (.i 1 (3) (.a (aQ.cs 8 8) .z)) <| yo (yN [iX 0, iX 0, .bool false, .bool false, .bool false, .bool false, iX 0, iX 0] 46 fun fL a9 dj fM dk aR => ?_); have bP := zv (b := a9) bL; have dl : w.heap.size ≤ a9 := by rw [dj]; exact bO.ch.size
 have dm := aQ.ch aR id; have dn := bL.ch aR iZ; have dp := bO.step aR iZ; refine yo (yT [iX T.saved.x, iX T.saved.y, .bool T.saved.late, .bool T.saved.sty.bold, .bool T.saved.sty.under, .bool T.saved.sty.turned, iX T.saved.sty.fore, iX T.saved.sty.back] dk fun fN bQ aS => ?_); have bR := dm.ch aS (fun (h : a7 = a9) => by have := aQ.lt; omega); have dq := dn.ch aS (fun b e (h : b = a9) => bP b e h); have dr := dp.step aS (fun i hi (h : i = a9) => by have := dl; omega); refine ye <| q7 <| yp 2 [] (.a (bQ.cs 0 8) .z) <| yo (yC (qe8 dq T.saved he.s (by omega)) ?_); rintro _ fO ⟨fP, fQ, fR, rfl, bS, fS, an⟩; refine ⟨_, rfl, ?_⟩; have ds := an.apart bR.lt bM; have fT := an.apart bQ.lt bP; have bT := dr.trans an; have aT := bR.ch an.ch (fun h => bM _ h rfl); refine yq 4 <| yE (nB (nS ?_)); refine q7 <| yp 2 [] (.q6 2 .z) <| yE (nU (yU1 ?_)); refine yx 1 <| ys <| yct <| yk <| ys <| q8 <| ysr <| yp 2 [] (.i 2 (3) (.a (aT.cs 16 8) .z)) <| yo (yN [iX 0, iX 0, .bool false, .bool false, .bool false, .bool false, iX 0, iX 0] 46 fun fU aa dt fV du aU => ?_); have bU := zv (b := aa) bS; have dv : w.heap.size ≤ aa := by rw [dt]; exact bT.ch.size
 have dw := aT.ch aU id; have dx := bS.ch aU iZ; have dy := bT.step aU iZ; refine yo (yT [iX T.away.x, iX T.away.y, .bool T.away.late, .bool T.away.sty.bold, .bool T.away.sty.under, .bool T.away.sty.turned, iX T.away.sty.fore, iX T.away.sty.back] du fun fW bV aV => ?_); have dz := dw.ch aV (fun (h : a7 = aa) => by have := aT.lt; omega); have dA := dx.ch aV (fun b e (h : b = aa) => bU b e h); have dB := dy.step aV (fun i hi (h : i = aa) => by have := dv; omega); refine ye <| q7 <| yp 2 [] (.a (bV.cs 0 8) .z) <| yo (yC (qe8 dA T.away he.a (by omega)) ?_); rintro _ fX ⟨ao, ab, ap, rfl, dC, fY, aW⟩; refine ⟨_, rfl, ?_⟩; have fZ := aW.apart dz.lt ds; have g0 := aW.apart bV.lt bU; have dD := dB.trans aW; refine yq 4 <| yE (nB (nS ?_)); refine q7 <| yp 2 [] (.q6 3 .z) <| yE (nU (yU1 ?_)); refine yx 1 <| ys <| ycf <| qk (eS (qf (qe (nS ?_)))); refine ys <| ys <| yD [8] fun g3 g4 bW => ?_; have bX := dC.ch bW iZ; have aq := dD.step bW iZ; refine yd [0, 1, 2, 3, 4, 5, 6, 7, 10] [] (.l (qg (qC aq.ch) (hI.blk.c 0) id) (.l (qg (qC aq.ch) (hI.blk.c 1) id) .z)) <| yK 8 (yB [pX g, pX q] 42 2 fun dE B dF g5 bY bZ => ?_); have dG := zv (b := B) bX; have g6 : w.heap.size ≤ B := by rw [dF]; exact aq.ch.size
 have dH := bX.ch bZ iZ; have c0 := aq.step bZ iZ; refine q9 <| yd [9] [] .z <| yDe (nS ?_); refine q8 <| yU 3 (yU1 ?_); refine yx 1 <| ys <| yct <| yk <| ys <| q8 <| ysr <| yf (f' := [(0, pX t), (3, .slice (ao.map at0) ab ap), (7, pX g), (114, .slice (some ⟨B, 0, none⟩) 2 2), (115, iX 2), (116, iX 0)]) 3 [] [0, 3, 7, 114, 115, 116] (.i 0 (2) (.l (bY.c 0) .z)) <| ye <| ysr <| yp 6 [] (.l (qg (qC c0.ch) (D.head.c 2) id) .z) <| ye <| q8 ?_; obtain ⟨ar, c1⟩ : ∃ l : List Int, l = (((((([] : List Int) ++ qb4 [T.grid.w, T.grid.h, T.top, T.bot]) ++ qb4 [((qbp [T.wrap, T.origin, T.insert, T.hidden, T.alt, T.draw0, T.draw1, T.shift] : Nat) : Int), ((qbp (qjP T.tabs) : Nat) : Int)]) ++ qkJ T.cursor) ++ qkJ T.saved) ++ qkJ T.away) := ⟨_, rfl⟩
 have dI : Own dE tU8 1 ao ab ap (u8s ar) := by rw [c1]; exact dH
 have dJ := he.g.1; rw [← D.lines, List.length_map] at dJ; refine qN [0, 3, 114, 115, 116, 123, 124, 125] (f' := [(0, pX t), (3, .slice (ao.map at0) ab ap), (114, .slice (some ⟨B, 0, none⟩) 2 2), (115, iX 2), (116, iX 0), (123, .slice (some ⟨r1, 0, none⟩) v.length bg), (124, iX ((v.length : Nat) : Int)), (125, iX 0)]) <| qw (σ := Nat × Option Nat × Nat × Nat) (fun ⟨d, I, J, O⟩ => [(0, pX t), (3, .slice (I.map at0) J O), (114, .slice (some ⟨B, 0, none⟩) 2 2), (115, iX 2), (116, iX 0), (123, .slice (some ⟨r1, 0, none⟩) v.length bg), (124, iX ((v.length : Nat) : Int)), (125, iX ((d : Nat) : Int))]) (fun ⟨d, I, J, O⟩ u => d ≤ v.length ∧ Own u tU8 1 I J O (u8s (ar ++ ((v.map Row.l).take d).flatMap qaS)) ∧ App w u none I ∧ J ≤ ab + 1800 * d ∧ Blk u B [pX g, pX q] 42 ∧ ∀ b, I = some b → ¬ b = B) (fun ⟨d, I, J, O⟩ => v.length - d) (0, ao, ab, ap) rfl ?_ ?_
 ·exact ⟨Nat.zero_le _, (by rw [List.take_zero, List.flatMap_nil, List.append_nil]; exact dI), c0, Nat.le_refl _, bY, dG⟩
 intro p dK dL g7 dM; obtain ⟨d, I, J, O⟩ := p; obtain ⟨g8, aX, S, g9, au, aY⟩ := dL; refine yx 1 <| ys <| yc (rL ((d : Nat) : Int) ((v.length : Nat) : Int)) (fun dN => ?_) fun dN => ?_
 ·obtain ⟨K, c2, Z⟩ := qfe (rows := v) (k := d) (by omega); obtain ⟨ga, dO⟩ := he.g.2 K.l (by rw [← D.lines]; exact List.mem_map_of_mem Z); have gb := (D.line K Z).2; refine yk <| ys <| q8 <| ysr <| yp 3 [] (.i ((d : Nat) : Int) (v.length) (.l (qf9 (Ch.rd (qC S.ch) D.body.rd id) c2) .z)) <| ye <| q7 <| yq 2 <| yo (yC (qde aX K.b K.n K.cap K.l (Ch.rd (qC S.ch) (D.line K Z).1.rd id) (Nat.lt_of_lt_of_le (D.line K Z).1.lt S.ch.size) (S.apart (D.line K Z).1.lt (fun b e => by cases e)) (D.line K Z).2 dO (by omega)) ?_); rintro _ dP ⟨c3, c4, c5, rfl, dQ, gc, aZ⟩; refine ⟨_, rfl, ?_⟩; have dR := aZ.apart au.lt aY; have dS := S.trans aZ; have dT := au.ch aZ.ch (fun h => aY _ h rfl); refine yq 4 <| yE (nB (nS ?_)); refine q7 <| yp 2 [] (.q6 (((d : Nat) : Int) + 1) .z) ?_; have dU : Own dP tU8 1 c3 c4 c5 (u8s (ar ++ ((v.map Row.l).take (d + 1)).flatMap qaS)) := by
   have h := dQ; rw [qcg c2]; simp only [qbb, qbG, List.flatMap_append, List.flatMap_cons, List.flatMap_nil, List.append_assoc, List.append_nil, Int.toNat_natCast] at h ⊢; exact h
  refine yE (fun a ha => dM (d + 1, c3, c4, c5) _ ⟨by omega, dU, dS, by omega, dT, dR⟩ (by show v.length - (d + 1) < v.length - d; omega) a (ha.kp [0, 3, 114, 115, 116, 123, 124, 125]))
 have dV : d = (v.map Row.l).length := by rw [List.length_map]; omega
 rw [dV, List.take_length, D.lines] at aX; refine qk (eS (qf (qe (nB (nS ?_))))); refine q7 <| yp 2 [] (.q6 1 .z) <| yE (nU (yU1 ?_)); refine yx 1 <| ys <| yct <| yk <| ys <| q8 <| ysr <| yp 3 [] (.i 1 (2) (.l (au.c 1) .z)) <| ye <| ysr <| yp 6 [] (.l (qg (qC S.ch) (E.head.c 2) id) .z) <| ye <| q8 ?_; obtain ⟨av, c6⟩ : ∃ l : List Int, l = (ar ++ (T.grid.lines).flatMap qaS) := ⟨_, rfl⟩
 have dW : Own dK tU8 1 I J O (u8s av) := by rw [c6]; exact aX
 have dX := he.o.1; rw [← E.lines, List.length_map] at dX; refine qN [0, 3, 114, 115, 116, 123, 124, 125] (f' := [(0, pX t), (3, .slice (I.map at0) J O), (114, .slice (some ⟨B, 0, none⟩) 2 2), (115, iX 2), (116, iX 1), (123, .slice (some ⟨r2, 0, none⟩) A.length bi), (124, iX ((A.length : Nat) : Int)), (125, iX 0)]) <| qw (σ := Nat × Option Nat × Nat × Nat) (fun ⟨j, U, a0, ac⟩ => [(0, pX t), (3, .slice (U.map at0) a0 ac), (114, .slice (some ⟨B, 0, none⟩) 2 2), (115, iX 2), (116, iX 1), (123, .slice (some ⟨r2, 0, none⟩) A.length bi), (124, iX ((A.length : Nat) : Int)), (125, iX ((j : Nat) : Int))]) (fun ⟨j, U, a0, ac⟩ u => j ≤ A.length ∧ Own u tU8 1 U a0 ac (u8s (av ++ ((A.map Row.l).take j).flatMap qaS)) ∧ App w u none U ∧ a0 ≤ J + 1800 * j ∧ Blk u B [pX g, pX q] 42 ∧ ∀ b, U = some b → ¬ b = B) (fun ⟨j, U, a0, ac⟩ => A.length - j) (0, I, J, O) rfl ?_ ?_
 ·exact ⟨Nat.zero_le _, (by rw [List.take_zero, List.flatMap_nil, List.append_nil]; exact dW), S, Nat.le_refl _, au, aY⟩
 intro p gd dY gf dZ; obtain ⟨j, U, a0, ac⟩ := p; obtain ⟨gg, aw, P, gh, b0, ax⟩ := dY; refine yx 1 <| ys <| yc (rL ((j : Nat) : Int) ((A.length : Nat) : Int)) (fun e0 => ?_) fun e0 => ?_
 ·obtain ⟨L, c7, a1⟩ := qfe (rows := A) (k := j) (by omega); obtain ⟨gi, e1⟩ := he.o.2 L.l (by rw [← E.lines]; exact List.mem_map_of_mem a1); have gj := (E.line L a1).2; refine yk <| ys <| q8 <| ysr <| yp 3 [] (.i ((j : Nat) : Int) (A.length) (.l (qf9 (Ch.rd (qC P.ch) E.body.rd id) c7) .z)) <| ye <| q7 <| yq 2 <| yo (yC (qde aw L.b L.n L.cap L.l (Ch.rd (qC P.ch) (E.line L a1).1.rd id) (Nat.lt_of_lt_of_le (E.line L a1).1.lt P.ch.size) (P.apart (E.line L a1).1.lt (fun b e => by cases e)) (E.line L a1).2 e1 (by omega)) ?_); rintro _ e2 ⟨c8, c9, ca, rfl, e3, gk, b1⟩; refine ⟨_, rfl, ?_⟩; have e4 := b1.apart b0.lt ax; have e5 := P.trans b1; have e6 := b0.ch b1.ch (fun h => ax _ h rfl); refine yq 4 <| yE (nB (nS ?_)); refine q7 <| yp 2 [] (.q6 (((j : Nat) : Int) + 1) .z) ?_; have e7 : Own e2 tU8 1 c8 c9 ca (u8s (av ++ ((A.map Row.l).take (j + 1)).flatMap qaS)) := by
   have h := e3; rw [qcg c7]; simp only [qbb, qbG, List.flatMap_append, List.flatMap_cons, List.flatMap_nil, List.append_assoc, List.append_nil, Int.toNat_natCast] at h ⊢; exact h
  refine yE (fun a ha => dZ (j + 1, c8, c9, ca) _ ⟨by omega, e7, e5, by omega, e6, e4⟩ (by show A.length - (j + 1) < A.length - j; omega) a (ha.kp [0, 3, 114, 115, 116, 123, 124, 125]))
 have e8 : j = (A.map Row.l).length := by rw [List.length_map]; omega
 rw [e8, List.take_length, E.lines] at aw; refine qk (eS (qf (qe (nB (nS ?_))))); refine q7 <| yp 2 [] (.q6 2 .z) <| yE (nU (yU1 ?_)); refine yx 1 <| ys <| ycf <| qk (eS (qf (qe (nS ?_)))); refine ysr <| yp 7 [6] (.l (qg (qC P.ch) (hI.blk.c 97) id) (.p (q := InR .u64 ((bn : Nat) : Int)) (qaD (by omega) (by omega)) .z)) <| yo (yB [.int .u64 ((bn : Nat) : Int)] 61 1 fun gl cb e9 gm b2 b3 => ?_); have cc := zv (b := cb) aw; have gn : w.heap.size ≤ cb := by rw [e9]; exact P.ch.size
 have ea := aw.ch b3 iZ; have eb := P.step b3 iZ; have cd := b0.ch b3 id; refine yo (yC (qdd 1 [((bn : Nat) : Int)] ea (Rd.all b2) (bC bN) b2.lt cc) ?_); rintro _ ec ⟨b4, ay, b5, rfl, ed, gp, az⟩; refine ⟨_, rfl, ?_⟩; have ee := az.apart cd.lt ax; have gq := az.apart b2.lt cc; have ce := eb.trans az; have ef := cd.ch az.ch (fun h => ax _ h rfl); refine yz 10 <| ys <| ysr <| yp 6 [] (.l (qg (qC ce.ch) (hI.blk.c 97) id) .z) <| ye <| q8 ?_; obtain ⟨b6, cf⟩ : ∃ l : List Int, l = ((av ++ (T.other.lines).flatMap qaS) ++ qb4 [((bn : Nat) : Int)]) := ⟨_, rfl⟩
 have eg : Own ec tU8 1 b4 ay b5 (u8s b6) := by rw [cf]; exact ed
 have eh := he.k.1; rw [← a4, List.length_map] at eh; have gr := G.len; refine qN [0, 3, 146, 147, 148] (f' := [(0, pX t), (3, .slice (b4.map at0) ay b5), (146, .slice ba bn bc), (147, iX ((bn : Nat) : Int)), (148, iX 0)]) <| qw (σ := Nat × Option Nat × Nat × Nat) (fun ⟨m, V, a2, ad⟩ => [(0, pX t), (3, .slice (V.map at0) a2 ad), (146, .slice ba bn bc), (147, iX ((bn : Nat) : Int)), (148, iX ((m : Nat) : Int))]) (fun ⟨m, V, a2, ad⟩ u => m ≤ bn ∧ Own u tU8 1 V a2 ad (u8s (b6 ++ ((ag.map Row.l).take m).flatMap (fun l => qch l.length ++ qaS l))) ∧ App w u none V ∧ a2 ≤ ay + 1810 * m ∧ Blk u B [pX g, pX q] 42 ∧ ∀ b, V = some b → ¬ b = B) (fun ⟨m, V, a2, ad⟩ => bn - m) (0, b4, ay, b5) rfl ?_ ?_
 ·exact ⟨Nat.zero_le _, (by rw [List.take_zero, List.flatMap_nil, List.append_nil]; exact eg), ce, Nat.le_refl _, ef, ee⟩
 intro p gs ei gu ej; obtain ⟨m, V, a2, ad⟩ := p; obtain ⟨gv, aA, aB, gw, cg, aC⟩ := ei; refine yx 1 <| ys <| yc (rL ((m : Nat) : Int) ((bn : Nat) : Int)) (fun ek => ?_) fun ek => ?_
 ·obtain ⟨bb, bo, rfl⟩ := qmH hI.bz G (by omega); obtain ⟨C, ci, a3⟩ := qfe (rows := ag) (k := m) (by omega); obtain ⟨gx, el⟩ := he.k.2 C.l (by rw [← a4]; exact List.mem_map_of_mem a3); have em := (G.line C a3).2; refine yk <| ys <| q8 <| ysr <| yp 3 [] (.i ((m : Nat) : Int) (bn) (.l (qf9 (Ch.rd (qC aB.ch) G.rd id) ci) .z)) <| ye <| q7 <| yp 4 [3] (.p (q := InR .u64 ((C.n : Nat) : Int)) (qaD (by omega) (by omega)) .z) <| yo (yB [.int .u64 ((C.n : Nat) : Int)] 61 1 fun gy cj en gz aD b7 => ?_); have b8 := zv (b := cj) aA; have gA : w.heap.size ≤ cj := by rw [en]; exact aB.ch.size
  have ck := cg.ch b7 id; have eo := aA.ch b7 iZ; have ep := aB.step b7 iZ; refine yo (yC (qdd 1 [((C.n : Nat) : Int)] eo (Rd.all aD) (bC bN) aD.lt b8) ?_); rintro _ gB ⟨gC, gD, gE, rfl, er, gF, ae⟩; refine ⟨_, rfl, ?_⟩; have cl := ae.apart ck.lt aC; have es := ae.apart aD.lt b8; have aE := ep.trans ae; have cm := ck.ch ae.ch (fun h => aC _ h rfl); have et := aD.ch ae.ch (fun h => b8 _ h rfl); refine yq 7 <| yo (yC (qde er C.b C.n C.cap C.l (Ch.rd (qC aE.ch) (G.line C a3).1.rd id) (Nat.lt_of_lt_of_le (G.line C a3).1.lt aE.ch.size) (aE.apart (G.line C a3).1.lt (fun b e => by cases e)) (G.line C a3).2 el (by omega)) ?_); rintro _ eu ⟨cn, co, cp, rfl, ev, gG, aF⟩; refine ⟨_, rfl, ?_⟩; have ew := aF.apart cm.lt cl; have gH := aF.apart et.lt es; have ex := aE.trans aF; have ey := cm.ch aF.ch (fun h => cl _ h rfl); refine yq 9 <| yE (nB (nS ?_)); refine q7 <| yp 2 [] (.q6 (((m : Nat) : Int) + 1) .z) ?_; have ez : Own eu tU8 1 cn co cp (u8s (b6 ++ ((ag.map Row.l).take (m + 1)).flatMap (fun l => qch l.length ++ qaS l))) := by
   have h := ev; rw [qcg ci]; simp only [qbb, qbG, List.flatMap_append, List.flatMap_cons, List.flatMap_nil, List.append_assoc, List.append_nil, Int.toNat_natCast] at h ⊢; rw [em]; exact h
  refine yE (fun a ha => ej (m + 1, cn, co, cp) _ ⟨by omega, ez, ex, by omega, ey, ew⟩ (by show bn - (m + 1) < bn - m; omega) a (ha.kp [0, 3, 146, 147, 148]))
 have eA : m = (ag.map Row.l).length := by rw [List.length_map]; omega
 rw [eA, List.take_length, a4] at aA; refine qk (eS (qf (qe (nS ?_)))); refine ys <| qY (fun b => w.heap.size ≤ b) [15] (by kernel_rfl) (fun gI gJ b9 => ?_); have cq := cg.ch b9 id; have eB := aA.ch b9 iZ; have af := aB.step b9 iZ; refine ydC [0, 1, 2, 3, 4, 6, 7, 8, 9, 11, 12, 13, 14] [] (fun u hu => (.l (qg hu (qg (qC af.ch) (hI.blk.c 96) id) (fun h => by have := hI.blk.lt; omega)) (.l (qg hu (qg (qC af.ch) (hI.blk.c 107) id) (fun h => by have := hI.blk.lt; omega)) (.a (qE hu (qE (qC af.ch) (hI.blk.cs 98 9) id) (fun h => by have := hI.blk.lt; omega)) .z)))) <| yH 5 (yC (qaz eB T.title (by omega)) ?_); rintro _ gK ⟨gL, gM, gN, rfl, eC, gO, aG⟩; refine ⟨_, rfl, ?_⟩; have cr := aG.apart cq.lt aC; have ct := af.trans aG; have cu := cq.ch aG.ch (fun h => aC _ h rfl); refine qo aG.ch ((fun i _ h => af.new i h)) <| yH 10 (yC (qaz eC T.reply (by omega)) ?_); rintro _ gP ⟨gQ, gR, gS, rfl, eD, gT, aH⟩; refine ⟨_, rfl, ?_⟩; have eE := aH.apart cu.lt cr; have bd := ct.trans aH; have eF := cu.ch aH.ch (fun h => cr _ h rfl); refine qo aH.ch ((fun i _ h => ct.new i h)) <| yK 15 (yC (qkT eD T.parser he.p pa pn pc (hI.ps.1.ch (qC bd.ch) iZ) hI.ps.2.1 (by rcases hI.pz with ⟨po, cv⟩; cases po with | none => exact .inl (by have h := hI.ps.1.1 (by rw [cv]; rfl); have W := hI.ps.2.1; rw [List.map_eq_nil_iff] at h; rw [h] at W; exact W.symm) | some b => exact .inr ⟨b, 0, by rw [cv]; rfl⟩) (fun x hx b f hb e => by have h1 := bd.new x hx; have W := hI.ps.2.2.2 _ hb; have h3 := hI.lt b (hI.inF.2.2.2.2 b W); omega) (by omega)) ?_)
 rintro _ gV ⟨eG, eH, eI, rfl, eJ, gW, cw⟩; refine ⟨_, rfl, ?_⟩; have gX := cw.apart eF.lt eE; have cx := bd.trans cw; refine q9 <| yd [16] [] .z <| yDe (nS ?_); refine qd (yR1 (.slice (eG.map at0) eH eI) ?_); refine ⟨_, _, _, rfl, ?_, by omega, cx.new, qC cx.ch⟩; have h := eJ; subst cf c6 c1; unfold qiL; unfold qkG; rw [← tabL_f]; simp only [qbb, qbG, List.append_assoc, List.append_nil, List.nil_append, Int.toNat_natCast] at h ⊢; have cy := congrArg List.length a4; rw [List.length_map, G.len] at cy; rw [← cy]; exact h
theorem u8_lit {w : World} {b : Nat} {l : List Int} (h : Rd w (some ⟨b, 0, none⟩) (u8s l)) (k : Nat) (hk : k < l.length) : w.cell? ⟨b, k, none⟩ = some (uX (l.getD k 0)) := by
 have := qgZ h hk; rwa [Int.toNat_natCast, Nat.mul_one, Nat.zero_add] at this
def fitE : List Int := qiL (qa7 zeroT 2 1)
theorem fitE_ok : 5 ≤ fitE.length ∧ fitE.getD 0 0 = 2 ∧ fitE.getD 3 0 = 1 ∧ fitE.length ≤ 1000 := by decide +kernel
def fitB : Bool := match decT (some fitE) with
  | some T => decide (T.grid.w = 2) && decide (T.grid.lines.length = 1)
  | none => false
theorem fitB_ok : fitB = true := by decide +kernel
theorem fit_dec : ∃ T, decT (some fitE) = some T ∧ T.grid.w = 2 ∧ T.grid.lines.length = 1 := by
 have h := fitB_ok; unfold fitB at h; cases e : decT (some fitE) with
 | none => rw [e] at h; cases h
 | some T =>
  rw [e] at h; simp only [Bool.and_eq_true, decide_eq_true_eq] at h; exact ⟨T, rfl, h.1, h.2⟩
theorem curB0 : CurB cur0 := ⟨by decide, by decide, by decide⟩
theorem fit_enc : EncOk (qa7 zeroT 2 1) := by
 have hl : ∀ l ∈ (qh5 2 1).lines, l.length ≤ 60 ∧ ∀ c ∈ l, cOk c := by
  have e : (qh5 2 1).lines = [[qx qc0, qx qc0]] := by kernel_rfl
  rw [e]; intro l hl; rw [List.mem_singleton.1 hl]; refine ⟨by decide, fun c hc => ?_⟩; have : c = qx qc0 := by simpa using hc
  rw [this]; exact ⟨by decide, by decide, by decide⟩
 exact ⟨by decide, by decide, by decide, curB0, curB0, curB0, ⟨by decide, hl⟩, ⟨by decide, hl⟩, ⟨by decide, fun l hl => by cases hl⟩, by decide, by decide, ⟨by decide, by decide, by decide, (fun x hx => by cases hx), by decide, by decide, (fun x hx => by cases hx), by decide⟩⟩
theorem qff {l : List Int} {w : World} {o : Option Nat} {n cap : Nat} (h : Own w tU8 1 o n cap (u8s l)) : l.length = n := by
 have := h.1; rwa [u8s, List.length_map, Nat.mul_one] at this
theorem qn1 : qfq fitE := by
 have : fitE.all (fun x => decide (0 ≤ x) && decide (x ≤ 255)) = true := by decide +kernel
 intro x hx; have := List.all_eq_true.1 this x hx; simpa using this
set_option maxHeartbeats 4000000 in
theorem qid (w : World) (hT : LT w) (h7 : gTop ≤ w.heap.size) : Calls Tryz.prog 9 [].toArray w fun e w' => e = .returned (.bool true) ∧ Ch (fun _ => False) w w' := by
 refine yA Tryz.func9 rfl <| yx 1 <| ysr <| yo (yC (qgK 2 1 _ (qz (zr w) hT (fun b h => h.elim)) (Nat.le_trans h7 (zs (zr w)))) ?_); rintro _ f ⟨t, rfl, A, D⟩; refine ⟨_, rfl, ?_⟩; have E : Ch (fun _ => False) w f := zt (zr w) D iZ; have F := A; obtain ⟨ga, qa, R, S, T, U, V, W, X, Y, Z, a0, m⟩ := F; obtain ⟨a1, a2, a3, a4⟩ := m.g1; obtain ⟨a5, a6, a7, a8⟩ := m.g2; refine yz 2 <| ys <| ysr <| yp 16 [] (.l (qg (zr f) (m.blk.c 0) id) (.l (qg (zr f) (m.blk.c 1) id) .z)) <| ye <| ycf <| yk <| ysr <| yq 1 <| yo (yC (qe9 (TermAt.ch A (zr f) iZ) fit_enc) ?_); rintro _ d ⟨a9, j, B, rfl, g, aa, ab, C⟩; refine ⟨_, rfl, ?_⟩; have p : Ch (fun _ => False) w d := zt E C iZ; have G : Ch (fun _ => False) f d := zt (zr f) C iZ; have H : fitE.length = j := qff g; obtain ⟨ob, rfl⟩ := qcf g (by have := fitE_ok.1; omega); have I : j ≤ B := g.2.1; obtain ⟨ac, ad, ae, af⟩ := fitE_ok; refine yz 3 <| ys <| ysr <| yq 4 <| yw [27] (rL ((j : Nat) : Int) 5) (fun q => ?_) fun q => ?_
 ·have ag := q; exfalso; omega
 have ah := q; refine yp 10 [] (.i 0 (j) (.l (o := 0) (qg (zr d) (u8_lit (l := fitE) (Own.rd g) 0 (by omega)) id) .z)) <| yw [33] (rI (fitE.getD 0 0) 2) (fun r => ?_) fun r => ?_
 ·have ai := r; exfalso; omega
 have aj := r; refine yp 15 [] (.i 3 (j) (.l (o := 3) (qg (zr d) (u8_lit (l := fitE) (Own.rd g) 3 (by omega)) id) .z)) <| ye <| yc (rI (fitE.getD 3 0) 1) (fun s => ?_) fun s => ?_
 ·have ak := s; exfalso; omega
 have al := s; refine yk <| ysr <| yq 1 ?_; obtain ⟨TD, J, am, an⟩ := fit_dec; refine yo (yC (qkS ob (some ⟨ob, 0, none⟩) j B fitE (some TD) _ (qz p hT (fun b h => h.elim)) (Nat.le_trans h7 (zs p)) (Ch.rd (zr d) (Own.rd g) id) H I (.inr ⟨0, rfl⟩) qn1 (by omega) (Nat.lt_of_lt_of_le g.lt (zs (zr d))) J) ?_); rintro _ a ⟨vd, xd, rfl, v, K⟩; refine ⟨_, rfl, ?_⟩; have L : Ch (fun _ => False) w a := zt p v iZ; have ao : Ch (fun _ => False) f a := zt G v iZ; have ap : Ch (fun _ => False) d a := zt (zr d) v iZ; obtain ⟨u, TU, M, rfl, rfl, N⟩ := K.resolve_left (fun h => by cases h.1); obtain rfl := zi M; have O := N; obtain ⟨gb, qb, aq, ar, au, av, aw, ax, ay, az, aA, aB, k⟩ := O; obtain ⟨aC, aD, P, n⟩ := k.g1; obtain ⟨aE, aF, aG, aH⟩ := k.g2; refine yz 7 <| ysr <| yp 31 [] (.l (qg (zr a) (k.blk.c 0) id) (.l (qg (zr a) (k.blk.c 1) id) (.l (qg (zr a) (k.blk.c 0) id) (.l (qg (zr a) (n.head.c 0) id) .z)))) <| yw [74] (rE TD.grid.w 2) (fun x => ?_) fun x => ?_
 ·have aI := x; refine yp 42 [] (.l (qg (zr a) (k.blk.c 0) id) (.l (qg (zr a) (n.head.c 2) id) .z)) <| ye <| qd (yR1 (.bool ((((P.length : Nat) : Int) : Int) == 1)) ?_); have y := congrArg List.length n.lines; rw [List.length_map] at y; refine ⟨zc ?_, L⟩
  first | rfl | (rw [beq_iff_eq]; omega)
 have aJ := x; exfalso; first | omega | (have y := n.lines; have Q := congrArg List.length y; rw [List.length_map] at Q; omega)
end Go.Proofs.YtclnfbmmaofpjaaGreatDoor.X

namespace Go.Proofs.YtclnfbmmaofpjaaGreatDoor.X
open Go Go.RowKit Go.Proofs.YtclnfbmmaofpjaaGreatDoor
set_option maxHeartbeats 4000000 in
theorem do_at {w : World} {t : Nat} {T : TS} {F : Nat → Prop} (hA : TermAt w t T F) (hT : LT w) (hf : Fine T) (x : Stp) (hx : x.text.size ≤ 1000000) : Calls Tryz.prog 17 [pX t, .agg #[.string x.text, iX x.w, iX x.h]].toArray w fun e w' => e = .returned (.tuple #[]) ∧ TermAt w' t (doT T x) (more F w w') ∧ Ch F w w' := by
 obtain ⟨⟨W, H, hL⟩, hp⟩ := hf; refine yA Tryz.func17 rfl <| ysr <| yo (yN [.string x.text, iX x.w, iX x.h] 37 fun m n j o a k => ?_); have p := zn j (zm w); have f := zu (zm w) k iZ; refine ye <| ys <| ysr <| yp 4 [] (.l (a.c 1) .z) <| yw [7] (rE x.w 0) (fun g => ?_) fun g => ?_
 ·refine yp 8 [] (.l (a.c 2) .z) <| ye <| yc (rE x.h 0) (fun i => ?_) fun i => ?_
  ·refine ysr <| yp 3 [] (.l (a.c 0) .z) ?_; have hq := Up.ch f; have b := hA.ch hq iZ; have d := qz hq hT (fun _ h => h.elim); refine yo (yQ (write_at b d hL hp x.text hx) ?_); rintro q ⟨hB, hc⟩; refine ye <| qd (rS (yR0 ?_)); exact ⟨rfl, TermAt.eq' (hB.mono (qr hq.size) (hA.moreOk (Nat.le_trans hq.size hc.size))) (if_pos ⟨g, i⟩), (hq.mono eZ).trans hc iZ⟩
  refine yk <| q7 <| yp 5 [] (.l (a.c 1) (.l (a.c 2) .z)) ?_; have hq := Up.ch f; have b := hA.ch hq iZ; have d := qz hq hT (fun _ h => h.elim); refine yo (yQ (qhN b d hL x.w x.h) ?_); rintro r ⟨hB, hc⟩; refine yE (qM ?_); exact ⟨rfl, TermAt.eq' (hB.mono (qr hq.size) (hA.moreOk (Nat.le_trans hq.size hc.size))) (if_neg (fun h => i h.2)), (hq.mono eZ).trans hc iZ⟩
 refine yz 8 <| ycf <| yk <| q7 <| yp 5 [] (.l (a.c 1) (.l (a.c 2) .z)) ?_; have hq := Up.ch f; have b := hA.ch hq iZ; have d := qz hq hT (fun _ h => h.elim); refine yo (yQ (qhN b d hL x.w x.h) ?_); rintro s ⟨hB, hc⟩; refine yE (qM ?_); exact ⟨rfl, TermAt.eq' (hB.mono (qr hq.size) (hA.moreOk (Nat.le_trans hq.size hc.size))) (if_neg (fun h => g h.1)), (hq.mono eZ).trans hc iZ⟩
theorem Sys.do {w0 w : World} {bs : List (Nat × List Value × TypeId)} {ts : List (Nat × TS)} (h : Sys w0 w bs ts) {i t : Nat} {T : TS} (hi : ts[i]? = some (t, T)) (x : Stp) (hx : x.text.size ≤ 1000000) : Calls Tryz.prog 17 [pX t, .agg #[.string x.text, iX x.w, iX x.h]].toArray w fun e w' => e = .returned (.tuple #[]) ∧ Sys w0 w' bs (ts.set i (t, doT T x)) :=
  h.step hi (fun F hA hl hf => do_at hA hl hf x hx) (fun hf => qmf hf x)
theorem qkU {st : List Stp} {k : Nat} (h : ∀ i : Nat, i < k → (gs st i).text.size ≤ 600) (hb : (gs st k).text.size ≤ 600) : ∀ i : Nat, i < k + 1 → (gs st i).text.size ≤ 600 := fun i hi => by
  rcases Nat.lt_or_ge i k with h' | h'
  · exact h i h'
  · obtain rfl : i = k := by omega
    exact hb
set_option maxHeartbeats 4000000 in
theorem qg4 (sb so sc : Nat) (st : List Stp) (w : World) (hT : LT w) (h7 : gTop ≤ w.heap.size) (hst : Rd w (some ⟨sb, so, none⟩) (flatS st)) : Calls Tryz.prog 10 [.slice (some ⟨sb, so, none⟩) st.length sc].toArray w fun e w' => e = .returned (.bool (qdE st)) ∧ Ch (fun _ => False) w w' := by
 have hS := Sys.start hT h7; refine yA Tryz.func10 rfl <| yx 1 <| ys <| yx 3 <| yc (rL 40 ((st.length : Nat) : Int)) (fun f => ?_) fun f => ?_
 ·refine yx 1 <| qd (rS (yR1 (.bool false) ?_)); refine ⟨zc ?_, hS.ch⟩; exact (Bool.eq_false_iff.2 fun h => by have := (shortB_iff.1 h).1; omega).symm
 refine yk <| ys <| yx 3 <| q8 <| qN [8, 9, 10] (f' := [(8, .slice (some ⟨sb, so, none⟩) st.length sc), (9, iX ((st.length : Nat) : Int)), (10, iX 0)]) <| qw (σ := Nat) (fun k => [(8, .slice (some ⟨sb, so, none⟩) st.length sc), (9, iX ((st.length : Nat) : Int)), (10, iX ((k : Nat) : Int))]) (fun k wv => (k : Int) ≤ ((st.length : Nat) : Int) ∧ Sys w wv [] [] ∧ ∀ i : Nat, i < k → (gs st i).text.size ≤ 600) (fun k => (((st.length : Nat) : Int)).toNat - k) 0 rfl ?_ ?_
 ·exact ⟨by omega, hS, fun i hi => absurd hi (Nat.not_lt_zero i)⟩
 intro k p q A r; obtain ⟨B, b, j⟩ := q; replace b : Sys w p [] [] := b; refine yx 1 <| ys <| yc (rL ((k : Nat) : Int) ((st.length : Nat) : Int)) (fun f => ?_) fun f => ?_
 ·refine yk <| ys <| q8 <| ysr <| yp 2 [] (.i ((k : Nat) : Int) (st.length) (.m (qjv (k := k) (Ch.rd b.ch hst id) (by omega)) (.m (s_w (k := k) (Ch.rd b.ch hst id) (by omega)) (.m (s_h (k := k) (Ch.rd b.ch hst id) (by omega)) (.e .z))))) <| yo (yN [oX, iX 0, iX 0] 37 fun s d t C u v => ?_); have n : Sys w s [(d, [oX, iX 0, iX 0], 37)] [] := b.box v u (Nat.le_of_eq t.symm); refine yo (yS (n.blk 0 (d, [oX, iX 0, iX 0], 37) rfl) fun o x y => ?_); have g : Sys w o [(d, [.string (gs st k).text, iX (gs st k).w, iX (gs st k).h], 37)] [] := n.set 0 rfl y (Blk.to x (by kernel_rfl)); refine ye <| ysr <| yp 4 [] (.l ((g.blk 0 (d, [.string (gs st k).text, iX (gs st k).w, iX (gs st k).h], 37) rfl).c 0) .z) <| ye <| yc (rL 600 (((gs st k).text).size : Int)) (fun f => ?_) fun f => ?_
  ·refine yx 1 <| qd (rB (rS (qy (rB (rS (yR1 (.bool false) ?_)))))); refine ⟨zc ?_, g.ch⟩; exact (Bool.eq_false_iff.2 fun h => by have := (shortB_iff.1 h).2 k (by omega); omega).symm
  refine qp (nB (nS ?_)); refine q7 <| yp 2 [] (.q6 (((k : Nat) : Int) + 1) .z) <| yE (fun a ha => r (k + 1) _ ⟨by omega, (Sys.pre (bs' := [(d, [.string (gs st k).text, iX (gs st k).w, iX (gs st k).h], 37)]) (show Sys w o (_ ++ [(d, [.string (gs st k).text, iX (gs st k).w, iX (gs st k).h], 37)]) _ from g)), qkU j (by omega)⟩ (by omega) a (ha.kp [8, 9, 10]))
 refine qk (eS (qf (qe (nS ?_)))); refine yx 1 <| qd (yR1 (.bool true) ?_); refine ⟨zc ?_, b.ch⟩; exact (shortB_iff.2 ⟨by omega, fun i hi => j i (by omega)⟩).symm
set_option maxHeartbeats 4000000 in
theorem qn2 (a : Option Addr) (sc : Nat) (w : World) (hT : LT w) (h7 : gTop ≤ w.heap.size) : Calls Tryz.prog 10 [.slice a 0 sc].toArray w fun e w' => e = .returned (.bool (qdE [])) ∧ Ch (fun _ => False) w w' := by
 have hS := Sys.start hT h7; refine yA Tryz.func10 rfl <| yx 1 <| ys <| yx 3 <| ycf <| yk <| ys <| yx 3 <| q8 <| yU 1 (yU1 ?_); refine yx 1 <| ys <| ycf <| qk (eS (qf (qe (nS ?_)))); refine yx 1 <| qd (yR1 (.bool true) ?_); exact ⟨rfl, hS.ch⟩
def backT (T : TS) : TS := { T with tabs := qeo (qao T.tabs 60) 60 }
theorem qfg (f : Nat → Bool) : ∀ (k i : Nat), i < k → qdG (qao f k) i = f i
 | 0, i, h => by omega
 | k + 1, i, h => by
  have hlt := qdF f k
  rw [qao]
  unfold qdG
  by_cases hi : i = k
  ·subst hi
   cases hf : f i with
   | true =>
    rw [if_pos rfl, Nat.add_div_right _ (Nat.pow_pos (by decide)), Nat.div_eq_of_lt hlt]; rfl
   | false =>
    simp only [Bool.false_eq_true, ↓reduceIte, Nat.add_zero]
    rw [Nat.div_eq_of_lt hlt]; rfl
  ·have ih := qfg f k i (by omega)
   unfold qdG at ih
   rw [← ih]
   split
   ·have e : 2 ^ k = 2 ^ i * (2 * 2 ^ (k - i - 1)) := by
     rw [← Nat.pow_succ', ← Nat.pow_add]
     congr 1; omega
    rw [e, Nat.add_mul_div_left _ _ (Nat.pow_pos (by decide)), Nat.add_mul_mod_self_left]
   ·rw [Nat.add_zero]
theorem qjQ : zb ByteArray.empty = true := beq_self_eq_true _
theorem qiT {n : Nat} {p : Nat → Bool} (h : ∀ i, i < n → p i = true) : (List.range n).all p = true := List.all_eq_true.2 fun i hi => h i (List.mem_range.1 hi)
theorem qn3 {c : Int} (h : lowM c) : qiK c = true := by unfold qiK; simp [h.1, h.2]
theorem qn4 {c : Int} (h : wideM c) : qby c = true := by
 unfold qby
 rcases h with h | h
 ·rw [qn3 h]; rfl
 ·simp [h.1, h.2]
theorem utB_of {u : US} (h : uR u) : utB u = true := by
 obtain ⟨a, b, c, n⟩ := u
 obtain ⟨⟨h1, h2⟩, h3, h4, h5, h6⟩ := h
 dsimp only at h1 h2 h3 h4 h5 h6
 have hn : n = 0 ∨ n = 1 ∨ n = 2 ∨ n = 3 := by omega
 unfold utB
 rcases hn with rfl | rfl | rfl | rfl
 ·rw [h3 (by decide), h4 (by decide), h5 (by decide)]; decide
 ·rw [h4 (by decide), h5 (by decide)] at h6 ⊢
  have := h6.resolve_left (by decide)
  simp [this]
 ·rw [h5 (by decide)] at h6 ⊢
  have := h6.resolve_left (by decide)
  simp [this]
 ·have := h6.resolve_left (by decide)
  simp [this]
theorem qkV {p : PS} (h : PRight p) (hl : p.lim) : qs p = true := by
 have hst := h.st
 have hb : p.state ≠ 0 → qcu p.utf = true := fun e => by rw [h.u e]; decide
 have hm : p.state ≠ 2 → p.state ≠ 3 → p.state ≠ 4 → zb p.marks = true := fun a b c => by rw [h.m a b c]; exact qjQ
 have hn : p.state ≠ 3 → p.state ≠ 4 → (p.params.length == 0) = true := fun a b => by rw [h.n a b]; rfl
 have ht : p.state ≤ 4 → zb p.text = true := fun a => by rw [h.t a]; exact qjQ
 have hx : qe6 p.text = true := by
  unfold qe6
  rw [qiT fun i hi => decide_eq_true (h.t5 i hi), decide_eq_true hl.t]; rfl
 have hq : qem p.params = true := by
  unfold qem
  rw [decide_eq_true hl.n, Bool.and_true]
  exact List.all_eq_true.2 fun x hx => by have := hl.b x hx; simp [this.1, this.2]
 have hw0 := h.wi
 unfold qs qbq
 rw [if_neg (by
  rintro (⟨a, b⟩ | ⟨a, b⟩)
  ·exact b (hw0 a)
  ·rw [hb a] at b; cases b)]
 by_cases s0 : p.state = 0
 ·rw [if_pos s0, utB_of h.u', hm (by omega) (by omega) (by omega), hn (by omega) (by omega), ht (by omega)]; rfl
 rw [if_neg s0]
 by_cases s1 : p.state = 1
 ·rw [if_pos s1, hm (by omega) (by omega) (by omega), hn (by omega) (by omega), ht (by omega)]; rfl
 rw [if_neg s1]
 by_cases s2 : p.state = 2
 ·obtain ⟨m1, m2⟩ := h.m2 s2
  rw [if_pos s2, hn (by omega) (by omega), ht (by omega)]
  unfold qaU
  rw [decide_eq_true m1, decide_eq_true hl.m, qiT fun i hi => qn3 (m2 i hi)]; rfl
 rw [if_neg s2]
 by_cases s3 : p.state = 3 ∨ p.state = 4
 ·rw [if_pos s3, hq, ht (by omega)]
  unfold qaU
  rw [decide_eq_true (Nat.zero_le _), decide_eq_true hl.m, qiT fun i hi => qn4 (h.m3 s3 i hi)]; rfl
 rw [if_neg s3]
 by_cases s7 : p.state = 7
 ·rw [if_pos s7, if_neg (by have := h.wc s7; omega), hm (by omega) (by omega) (by omega), hn (by omega) (by omega), hx]; rfl
 rw [if_neg s7, if_pos (by omega), hm (by omega) (by omega) (by omega), hn (by omega) (by omega), hx]; rfl
theorem qn5 {p : PS} (h : PRight p) (hl : p.lim) : ParsOk p := by
 have hst := h.st
 refine ⟨by omega, ?_, hl.u, ⟨hl.u.len.symm, by rw [hl.u.len]; have := hl.u.n; omega⟩, hl.m, hl.n, hl.b, hl.t, qkV h hl⟩
 by_cases e : p.state = 7
 ·have := h.wc e; omega
 ·have := h.wi e; omega
theorem cOk_of {c : Cel} (h : celO c) : cOk c := by
 obtain ⟨h1, h2⟩ := h
 refine ⟨h1, ?_⟩
 rcases h2 with h2 | h2
 ·omega
 ·unfold qbh at h2
  simp only [Bool.and_eq_true, Bool.or_eq_true, decide_eq_true_eq, bne_iff_ne, Bool.not_eq_true', decide_eq_false_iff_not] at h2
  omega
theorem decOk_of {W H : Int} {T : TS} (h : Okt true W H T) (hp : PRight T.parser) (hl : T.parser.lim) : DecOk T := by
 obtain ⟨⟨hW, hH, ⟨g1, g1'⟩, ⟨g2, g2'⟩, cu, sa, aw, tb, bk, rp⟩, hg, ho, hb, cs, cl, ss, sl, ay, al, ti⟩ := h
 subst g1 g1'
 have hline : ∀ {G : Gr}, okD G → G.w = T.grid.w → ∀ l ∈ G.lines, (l.length : Int) = T.grid.w ∧ qbo l = true ∧ ∀ c ∈ l, cOk c := fun hG e l hl' => by
  have h1 := hG.wid l hl'
  have h2 := hG.ok l hl'
  exact ⟨by rw [h1]; omega, h2.2, fun c hc => cOk_of (h2.1 c hc)⟩
 refine ⟨hW, hH, ⟨g2, g2'⟩, tb, ⟨cu.1, cu.2, cl rfl, cs⟩, ⟨sa.1, sa.2, sl, ss⟩, ⟨aw.1, aw.2, al, ay⟩, ⟨hg.len, hline hg rfl⟩, ⟨by rw [ho.len, g2'], hline ho g2⟩, ⟨bk, fun l hl' => ?_⟩, ti, rp, qn5 hp hl⟩
 obtain ⟨h1, h2, h3⟩ := hb l hl'
 exact ⟨List.length_pos_iff.2 h2, h3, h1.2, fun c hc => cOk_of (h1.1 c hc)⟩
theorem qn6 (T : TS) : 0 < (qiL T).length := by
  unfold qiL; rw [List.length_append]; have := List.length_pos_iff.2 (putF_ne 9 T.grid.w.toNat); show 0 < (qjC 9 T.grid.w.toNat).length + _; omega
set_option maxHeartbeats 4000000 in
theorem qn7 (p1 p2 : Int) (sb so sc : Nat) (st : List Stp) (w : World) (hT : LT w) (h7 : gTop ≤ w.heap.size) (hst : Rd w (some ⟨sb, so, none⟩) (flatS st)) (hsh : st.length ≤ 80 ∧ ∀ k, k < st.length → (gs st k).text.size ≤ 600) : Calls Tryz.prog 11 [.agg #[iX p1, iX p2], .slice (some ⟨sb, so, none⟩) st.length sc].toArray w fun e w' => ∃ t, e = .returned (pX t) ∧ Sys w w' [] [(t, doN (qa7 zeroT (p1) (p2)) st st.length)] := by
 have hS := Sys.start hT h7; refine yA Tryz.func11 rfl <| ysr <| yo (yN [iX p1, iX p2] 22 fun s d u L j v => ?_); refine yz 2 <| ysr <| yp 4 [] (.i 0 (2) (.l (j.c 0) (.i 1 (2) (.l (j.c 1) .z)))) ?_; have x : Sys w s [(d, [iX p1, iX p2], 22)] [] := hS.box v j (Nat.le_of_eq u.symm); refine yo (yC (x.new (p1) (p2)) ?_); rintro _ y ⟨b, rfl, n, M⟩; refine ⟨_, rfl, ?_⟩; replace n : Sys w y [(d, [iX p1, iX p2], 22)] [(b, (qa7 zeroT (p1) (p2)))] := n; refine yz 6 <| ys <| yx 3 <| q8 <| qN [5, 13, 14, 15] (f' := [(5, pX b), (13, .slice (some ⟨sb, so, none⟩) st.length sc), (14, iX ((st.length : Nat) : Int)), (15, iX 0)]) <| qw (σ := Nat) (fun k => [(5, pX b), (13, .slice (some ⟨sb, so, none⟩) st.length sc), (14, iX ((st.length : Nat) : Int)), (15, iX ((k : Nat) : Int))]) (fun k wv => (k : Int) ≤ ((st.length : Nat) : Int) ∧ Sys w wv [(d, [iX p1, iX p2], 22)] [(b, (doN (qa7 zeroT (p1) (p2)) st k))]) (fun k => (((st.length : Nat) : Int)).toNat - k) 0 rfl ?_ ?_
 ·exact ⟨by omega, n⟩
 intro k A B N C; obtain ⟨O, f⟩ := B; replace f : Sys w A [(d, [iX p1, iX p2], 22)] [(b, (doN (qa7 zeroT (p1) (p2)) st k))] := f; refine yx 1 <| ys <| yc (rL ((k : Nat) : Int) ((st.length : Nat) : Int)) (fun D => ?_) fun D => ?_
 ·refine yk <| ys <| q8 <| ysr <| yp 2 [] (.i ((k : Nat) : Int) (st.length) (.m (qjv (k := k) (Ch.rd f.ch hst id) (by omega)) (.m (s_w (k := k) (Ch.rd f.ch hst id) (by omega)) (.m (s_h (k := k) (Ch.rd f.ch hst id) (by omega)) (.e .z))))) <| yo (yN [oX, iX 0, iX 0] 37 fun E g F P G H => ?_); have p : Sys w E [(d, [iX p1, iX p2], 22), (g, [oX, iX 0, iX 0], 37)] [(b, (doN (qa7 zeroT (p1) (p2)) st k))] := f.box H G (Nat.le_of_eq F.symm); refine yo (yS (p.blk 1 (g, [oX, iX 0, iX 0], 37) rfl) fun I J K => ?_); have q : Sys w I [(d, [iX p1, iX p2], 22), (g, [.string (gs st k).text, iX (gs st k).w, iX (gs st k).h], 37)] [(b, (doN (qa7 zeroT (p1) (p2)) st k))] := p.set 1 rfl K (Blk.to J (by kernel_rfl)); refine ye <| q7 <| yp 2 [] (.a ((q.blk 1 (g, [.string (gs st k).text, iX (gs st k).w, iX (gs st k).h], 37) rfl).cs 0 3) .z) <| yo (yQ (q.do (i := 0) rfl (gs st k) (by have := hsh.2 k (by omega); omega)) fun r o => ?_); replace o : Sys w r [(d, [iX p1, iX p2], 22), (g, [.string (gs st k).text, iX (gs st k).w, iX (gs st k).h], 37)] [(b, (doT (doN (qa7 zeroT (p1) (p2)) st k) (gs st k)))] := o; refine yE (nB (nS ?_)); refine q7 <| yp 2 [] (.q6 (((k : Nat) : Int) + 1) .z) <| yE (fun a ha => C (k + 1) _ ⟨by omega, (Sys.pre (bs' := [(g, [.string (gs st k).text, iX (gs st k).w, iX (gs st k).h], 37)]) (show Sys w r (_ ++ [(g, [.string (gs st k).text, iX (gs st k).w, iX (gs st k).h], 37)]) _ from o))⟩ (by omega) a (ha.kp [5, 13, 14, 15]))
 refine qk (eS (qf (qe (nS ?_)))); refine yx 2 <| qd (yR1 (pX b) ?_); obtain rfl : k = st.length := by omega
 exact ⟨b, rfl, Sys.pre (bs := []) (bs' := [(d, [iX p1, iX p2], 22)]) f⟩
set_option maxHeartbeats 4000000 in
theorem make_nil (p1 p2 : Int) (a : Option Addr) (sc : Nat) (w : World) (hT : LT w) (h7 : gTop ≤ w.heap.size) : Calls Tryz.prog 11 [.agg #[iX p1, iX p2], .slice a 0 sc].toArray w fun e w' => ∃ t, e = .returned (pX t) ∧ Sys w w' [] [(t, doN (qa7 zeroT (p1) (p2)) [] 0)] := by
 have hS := Sys.start hT h7; refine yA Tryz.func11 rfl <| ysr <| yo (yN [iX p1, iX p2] 22 fun h b j o d k => ?_); refine yz 2 <| ysr <| yp 4 [] (.i 0 (2) (.l (d.c 0) (.i 1 (2) (.l (d.c 1) .z)))) ?_; have m : Sys w h [(b, [iX p1, iX p2], 22)] [] := hS.box k d (Nat.le_of_eq j.symm); refine yo (yC (m.new (p1) (p2)) ?_); rintro _ n ⟨f, rfl, g, p⟩; refine ⟨_, rfl, ?_⟩; replace g : Sys w n [(b, [iX p1, iX p2], 22)] [(f, (qa7 zeroT (p1) (p2)))] := g; refine yz 6 <| ys <| yx 3 <| q8 <| yU 1 (yU1 ?_); refine yx 1 <| ys <| ycf <| qk (eS (qf (qe (nS ?_)))); refine yx 2 <| qd (yR1 (pX f) ?_); exact ⟨f, rfl, Sys.pre (bs := []) (bs' := [(b, [iX p1, iX p2], 22)]) g⟩
theorem qeF (p1 p2 : Int) (a : Option Addr) (n sc : Nat) (st : List Stp) (w : World) (hT : LT w) (h7 : gTop ≤ w.heap.size) (ha : n = 0 ∨ ∃ b off, a = some ⟨b, off, none⟩) (hn : st.length = n) (hst : Rd w a (flatS st)) (hsh : st.length ≤ 80 ∧ ∀ k, k < st.length → (gs st k).text.size ≤ 600) :
 Calls Tryz.prog 11 [.agg #[iX p1, iX p2], .slice a n sc].toArray w fun e w' => ∃ t, e = .returned (pX t) ∧ Sys w w' [] [(t, doN (qa7 zeroT (p1) (p2)) st st.length)] := by
 rcases ha with rfl | ⟨b, off, rfl⟩
 ·obtain rfl := List.eq_nil_of_length_eq_zero hn; exact make_nil p1 p2 a sc w hT h7
 subst hn; exact qn7 p1 p2 b off sc st w hT h7 hst hsh
theorem qfh (a : Option Addr) (n sc : Nat) (st : List Stp) (w : World) (hT : LT w) (h7 : gTop ≤ w.heap.size) (ha : n = 0 ∨ ∃ b off, a = some ⟨b, off, none⟩) (hn : st.length = n) (hst : Rd w a (flatS st)) :
 Calls Tryz.prog 10 [.slice a n sc].toArray w fun e w' => e = .returned (.bool (qdE st)) ∧ Ch (fun _ => False) w w' := by
 rcases ha with rfl | ⟨b, off, rfl⟩
 ·obtain rfl := List.eq_nil_of_length_eq_zero hn; exact qn2 a sc w hT h7
 subst hn; exact qg4 b off sc st w hT h7 hst
set_option maxHeartbeats 4000000 in
theorem eqcells0 (b1 b2 c1 c2 : Nat) (l m : List Cel) (w : World) (h1 : Rd w (some ⟨b1, 0, none⟩) (qX l)) (h2 : Rd w (some ⟨b2, 0, none⟩) (qX m)) (hl : l.length ≤ maxLen) : Calls Tryz.prog 56 [.slice (some ⟨b1, 0, none⟩) l.length c1, .slice (some ⟨b2, 0, none⟩) m.length c2].toArray w fun e w' => e = .returned (.bool (eqLB l m)) ∧ Ch (fun _ => False) w w' := by
 simp only [maxLen] at hl; refine yA Tryz.func56 rfl <| yx 1 <| ys <| yx 5 <| yc (rI ((l.length : Nat) : Int) ((m.length : Nat) : Int)) (fun j => ?_) fun j => ?_
 ·have p := j; refine yx 1 <| qd (rS (yR1 (.bool false) ?_)); refine ⟨?_, Up.ch (zm w)⟩; rw [qjt (fun e => p (by rw [e]))]
 have C := j; refine yk <| ys <| yx 3 <| q8 <| qN [0, 1, 12, 13] (f' := [(0, .slice (some ⟨b1, 0, none⟩) l.length c1), (1, .slice (some ⟨b2, 0, none⟩) m.length c2), (12, iX ((l.length : Nat) : Int)), (13, iX 0)]) <| qw (σ := Nat) (fun k => [(0, .slice (some ⟨b1, 0, none⟩) l.length c1), (1, .slice (some ⟨b2, 0, none⟩) m.length c2), (12, iX ((l.length : Nat) : Int)), (13, iX ((k : Nat) : Int))]) (fun k u => k ≤ l.length ∧ l.take k = m.take k ∧ Ch (fun _ => False) w u) (fun k => l.length - k) 0 rfl ?_ ?_
 ·exact ⟨Nat.zero_le _, rfl, Ch.refl _ _⟩
 intro k D q E r; obtain ⟨hk, n, f⟩ := q; have o := zu (zm w) f iZ; have s := Ch.rd f h1 id; have t := Ch.rd f h2 id; refine yx 1 <| ys <| yc (rL ((k : Nat) : Int) ((l.length : Nat) : Int)) (fun v => ?_) fun v => ?_
 ·refine yk <| ys <| q8 <| yx 2 <| ys <| yD [] fun F G g => ?_; have x := zu o g iZ; have y := zt f g eZ; have b := Ch.rd g s id; have c := Ch.rd g t id; refine yd (uL 0 9) [] (.i ((k : Nat) : Int) (l.length) (.m (qc1 (i := ((k : Nat) : Int)) b (by omega) (by omega)) (.m (qc2 (i := ((k : Nat) : Int)) b (by omega) (by omega)) (.m (qb9 (i := ((k : Nat) : Int)) b (by omega) (by omega)) (.m (qaA (i := ((k : Nat) : Int)) b (by omega) (by omega)) (.m (qc3 (i := ((k : Nat) : Int)) b (by omega) (by omega)) (.m (qc4 (i := ((k : Nat) : Int)) b (by omega) (by omega)) (.e (.i ((k : Nat) : Int) (m.length) (.m (qc1 (i := ((k : Nat) : Int)) c (by omega) (by omega)) (.m (qc2 (i := ((k : Nat) : Int)) c (by omega) (by omega)) (.m (qb9 (i := ((k : Nat) : Int)) c (by omega) (by omega)) (.m (qaA (i := ((k : Nat) : Int)) c (by omega) (by omega)) (.m (qc3 (i := ((k : Nat) : Int)) c (by omega) (by omega)) (.m (qc4 (i := ((k : Nat) : Int)) c (by omega) (by omega)) (.e .z)))))))))))))))) <| yDe (nS ?_); refine yc (rN (rY ((((gc l ((k : Nat) : Int)).rune : Int) == (gc m ((k : Nat) : Int)).rune) && ((((gc l ((k : Nat) : Int)).sty.bold == (gc m ((k : Nat) : Int)).sty.bold) && (((gc l ((k : Nat) : Int)).sty.under == (gc m ((k : Nat) : Int)).sty.under) && (((gc l ((k : Nat) : Int)).sty.turned == (gc m ((k : Nat) : Int)).sty.turned) && ((((gc l ((k : Nat) : Int)).sty.fore : Int) == (gc m ((k : Nat) : Int)).sty.fore) && ((((gc l ((k : Nat) : Int)).sty.back : Int) == (gc m ((k : Nat) : Int)).sty.back) && true))))) && true)))) (fun d => ?_) fun d => ?_
  ·rw [qcH] at d; have h := d; refine yx 1 <| qd (rB (rS (qy (rB (rS (yR1 (.bool false) ?_)))))); refine ⟨?_, Up.ch x⟩; rw [qjt (qkw (k := k) (by omega) (by omega) (fun e => by rw [← qhL (by omega), ← qhL (by omega)] at e; rw [e] at h; simp at h))]
  rw [qcH] at d; have h := eq_of_beq d; refine qp (nB (nS ?_)); refine q7 <| yp 2 [] (.q6 (((k : Nat) : Int) + 1) .z) <| yE (fun a ha => r (k + 1) _ ⟨by omega, qcc n (by omega) (by omega) (by rw [← qhL (by omega), ← qhL (by omega)]; exact h), y⟩ (by show l.length - (k + 1) < l.length - k; omega) a (ha.kp [0, 1, 12, 13]))
 have A : k = l.length := by omega
 refine qk (eS (qf (qe (nS ?_)))); refine yx 1 <| qd (yR1 (.bool true) ?_); refine ⟨?_, Up.ch o⟩; have B : m.length = l.length := by omega
 rw [eqLB_t (by rw [A, List.take_length, ← B, List.take_length] at n; exact n)]
set_option maxHeartbeats 4000000 in
theorem same80 (b1 b2 c1 c2 : Nat) (l m : List Cel) (w : World) (h1 : Rd w (some ⟨b1, 0, none⟩) (qX l)) (h2 : Rd w (some ⟨b2, 0, none⟩) (qX m)) (hl : l.length ≤ maxLen) : Calls Tryz.prog 57 [.slice (some ⟨b1, 0, none⟩) l.length c1, .slice (some ⟨b2, 0, none⟩) m.length c2].toArray w fun e w' => e = .returned (.bool (eqLB l m)) ∧ Ch (fun _ => False) w w' := by
 simp only [maxLen] at hl; refine yA Tryz.func57 rfl <| yx 1 <| ys <| yx 5 <| yc (rI ((l.length : Nat) : Int) ((m.length : Nat) : Int)) (fun j => ?_) fun j => ?_
 ·have p := j; refine yx 1 <| qd (rS (yR1 (.bool false) ?_)); refine ⟨?_, Up.ch (zm w)⟩; rw [qjt (fun e => p (by rw [e]))]
 have C := j; refine yk <| ys <| yx 3 <| q8 <| qN [0, 1, 12, 13] (f' := [(0, .slice (some ⟨b1, 0, none⟩) l.length c1), (1, .slice (some ⟨b2, 0, none⟩) m.length c2), (12, iX ((l.length : Nat) : Int)), (13, iX 0)]) <| qw (σ := Nat) (fun k => [(0, .slice (some ⟨b1, 0, none⟩) l.length c1), (1, .slice (some ⟨b2, 0, none⟩) m.length c2), (12, iX ((l.length : Nat) : Int)), (13, iX ((k : Nat) : Int))]) (fun k u => k ≤ l.length ∧ l.take k = m.take k ∧ Ch (fun _ => False) w u) (fun k => l.length - k) 0 rfl ?_ ?_
 ·exact ⟨Nat.zero_le _, rfl, Ch.refl _ _⟩
 intro k D q E r; obtain ⟨hk, n, f⟩ := q; have o := zu (zm w) f iZ; have s := Ch.rd f h1 id; have t := Ch.rd f h2 id; refine yx 1 <| ys <| yc (rL ((k : Nat) : Int) ((l.length : Nat) : Int)) (fun v => ?_) fun v => ?_
 ·refine yk <| ys <| q8 <| yx 2 <| ys <| yD [] fun F G g => ?_; have x := zu o g iZ; have y := zt f g eZ; have b := Ch.rd g s id; have c := Ch.rd g t id; refine yd (uL 0 9) [] (.i ((k : Nat) : Int) (l.length) (.m (qc1 (i := ((k : Nat) : Int)) b (by omega) (by omega)) (.m (qc2 (i := ((k : Nat) : Int)) b (by omega) (by omega)) (.m (qb9 (i := ((k : Nat) : Int)) b (by omega) (by omega)) (.m (qaA (i := ((k : Nat) : Int)) b (by omega) (by omega)) (.m (qc3 (i := ((k : Nat) : Int)) b (by omega) (by omega)) (.m (qc4 (i := ((k : Nat) : Int)) b (by omega) (by omega)) (.e (.i ((k : Nat) : Int) (m.length) (.m (qc1 (i := ((k : Nat) : Int)) c (by omega) (by omega)) (.m (qc2 (i := ((k : Nat) : Int)) c (by omega) (by omega)) (.m (qb9 (i := ((k : Nat) : Int)) c (by omega) (by omega)) (.m (qaA (i := ((k : Nat) : Int)) c (by omega) (by omega)) (.m (qc3 (i := ((k : Nat) : Int)) c (by omega) (by omega)) (.m (qc4 (i := ((k : Nat) : Int)) c (by omega) (by omega)) (.e .z)))))))))))))))) <| yDe (nS ?_); refine yc (rN (rY ((((gc l ((k : Nat) : Int)).rune : Int) == (gc m ((k : Nat) : Int)).rune) && ((((gc l ((k : Nat) : Int)).sty.bold == (gc m ((k : Nat) : Int)).sty.bold) && (((gc l ((k : Nat) : Int)).sty.under == (gc m ((k : Nat) : Int)).sty.under) && (((gc l ((k : Nat) : Int)).sty.turned == (gc m ((k : Nat) : Int)).sty.turned) && ((((gc l ((k : Nat) : Int)).sty.fore : Int) == (gc m ((k : Nat) : Int)).sty.fore) && ((((gc l ((k : Nat) : Int)).sty.back : Int) == (gc m ((k : Nat) : Int)).sty.back) && true))))) && true)))) (fun d => ?_) fun d => ?_
  ·rw [qcH] at d; have h := d; refine yx 1 <| qd (rB (rS (qy (rB (rS (yR1 (.bool false) ?_)))))); refine ⟨?_, Up.ch x⟩; rw [qjt (qkw (k := k) (by omega) (by omega) (fun e => by rw [← qhL (by omega), ← qhL (by omega)] at e; rw [e] at h; simp at h))]
  rw [qcH] at d; have h := eq_of_beq d; refine qp (nB (nS ?_)); refine q7 <| yp 2 [] (.q6 (((k : Nat) : Int) + 1) .z) <| yE (fun a ha => r (k + 1) _ ⟨by omega, qcc n (by omega) (by omega) (by rw [← qhL (by omega), ← qhL (by omega)]; exact h), y⟩ (by show l.length - (k + 1) < l.length - k; omega) a (ha.kp [0, 1, 12, 13]))
 have A : k = l.length := by omega
 refine qk (eS (qf (qe (nS ?_)))); refine yx 1 <| qd (yR1 (.bool true) ?_); refine ⟨?_, Up.ch o⟩; have B : m.length = l.length := by omega
 rw [eqLB_t (by rw [A, List.take_length, ← B, List.take_length] at n; exact n)]
theorem qiU (b1 b2 c1 c2 : Nat) {n1 n2 : Nat} (l m : List Cel) (w : World) (h1 : Rd w (some ⟨b1, 0, none⟩) (qX l)) (h2 : Rd w (some ⟨b2, 0, none⟩) (qX m)) (hl : l.length ≤ maxLen) (e1 : l.length = n1) (e2 : m.length = n2) : Calls Tryz.prog 56 [.slice (some ⟨b1, 0, none⟩) n1 c1, .slice (some ⟨b2, 0, none⟩) n2 c2].toArray w fun e w' => e = .returned (.bool (eqLB l m)) ∧ Ch (fun _ => False) w w' := by
 subst e1 e2; exact eqcells0 b1 b2 c1 c2 l m w h1 h2 hl
theorem qn8 (b1 b2 c1 c2 : Nat) {n1 n2 : Nat} (l m : List Cel) (w : World) (h1 : Rd w (some ⟨b1, 0, none⟩) (qX l)) (h2 : Rd w (some ⟨b2, 0, none⟩) (qX m)) (hl : l.length ≤ maxLen) (e1 : l.length = n1) (e2 : m.length = n2) : Calls Tryz.prog 57 [.slice (some ⟨b1, 0, none⟩) n1 c1, .slice (some ⟨b2, 0, none⟩) n2 c2].toArray w fun e w' => e = .returned (.bool (eqLB l m)) ∧ Ch (fun _ => False) w w' := by
 subst e1 e2; exact same80 b1 b2 c1 c2 l m w h1 h2 hl
set_option maxHeartbeats 4000000 in
theorem qkW (b1 o1 c1 b2 o2 c2 : Nat) (rows1 rows2 : List Row) (M1 M2 : List (List Cel)) (hM1 : rows1.map Row.l = M1) (hM2 : rows2.map Row.l = M2) (w : World) (h1 : Rd w (some ⟨b1, o1, none⟩) (rows1.map Row.val)) (h2 : Rd w (some ⟨b2, o2, none⟩) (rows2.map Row.val)) (hn : rows1.length ≤ 1000) (hl1 : ∀ x ∈ rows1, LineAt w x.b x.l x.cap ∧ x.l.length = x.n) (hl2 : ∀ x ∈ rows2, LineAt w x.b x.l x.cap ∧ x.l.length = x.n) : Calls Tryz.prog 40 [.slice (some ⟨b1, o1, none⟩) rows1.length c1, .slice (some ⟨b2, o2, none⟩) rows2.length c2].toArray w fun e w' => e = .returned (.bool (eqRB M1 M2)) ∧ Ch (fun _ => False) w w' := by
 refine yA Tryz.func40 rfl <| yx 1 <| ys <| yx 5 <| yc (rI ((rows1.length : Nat) : Int) ((rows2.length : Nat) : Int)) (fun j => ?_) fun j => ?_
 ·have K := j; refine yx 1 <| qd (rS (yR1 (.bool false) ?_)); refine ⟨?_, Up.ch (zm w)⟩; rw [qju (fun e => K (by rw [← hM1, ← hM2] at e; have := congrArg List.length e; rw [List.length_map, List.length_map] at this; omega))]
 have a0 := j; refine yk <| ys <| yx 3 <| q8 <| qN [0, 1, 12, 13] (f' := [(0, .slice (some ⟨b1, o1, none⟩) rows1.length c1), (1, .slice (some ⟨b2, o2, none⟩) rows2.length c2), (12, iX ((rows1.length : Nat) : Int)), (13, iX 0)]) <| qw (σ := Nat) (fun k => [(0, .slice (some ⟨b1, o1, none⟩) rows1.length c1), (1, .slice (some ⟨b2, o2, none⟩) rows2.length c2), (12, iX ((rows1.length : Nat) : Int)), (13, iX ((k : Nat) : Int))]) (fun k u => k ≤ rows1.length ∧ M1.take k = M2.take k ∧ Ch (fun _ => False) w u) (fun k => rows1.length - k) 0 rfl ?_ ?_
 ·exact ⟨Nat.zero_le _, rfl, Ch.refl _ _⟩
 intro k y L a1 M; obtain ⟨hk, m, f⟩ := L; have A := zu (zm w) f iZ; have N := Ch.rd f h1 id; have O := Ch.rd f h2 id; have B : ∀ x ∈ rows1, LineAt y x.b x.l x.cap ∧ x.l.length = x.n := fun x hx => ⟨(hl1 x hx).1.ch f id, (hl1 x hx).2⟩
 have C : ∀ x ∈ rows2, LineAt y x.b x.l x.cap ∧ x.l.length = x.n := fun x hx => ⟨(hl2 x hx).1.ch f id, (hl2 x hx).2⟩
 refine yx 1 <| ys <| yc (rL ((k : Nat) : Int) ((rows1.length : Nat) : Int)) (fun P => ?_) fun P => ?_
 ·obtain ⟨c, o⟩ := qdB (rows := rows1) (k := k) (by omega); obtain ⟨d, p⟩ := qdB (rows := rows2) (k := k) (by omega); obtain ⟨D, E⟩ := qdA hM1 o; obtain ⟨F, G⟩ := qdA hM2 p; refine yk <| ys <| q8 <| yx 2 <| ys <| yD [8] fun H a2 g => ?_; have Q := zu A g iZ; have R := zt f g eZ; have S := Ch.rd g N id; have T := Ch.rd g O id; have q : ∀ x ∈ rows1, LineAt H x.b x.l x.cap ∧ x.l.length = x.n := fun x hx => ⟨(B x hx).1.ch g id, (B x hx).2⟩
  have r : ∀ x ∈ rows2, LineAt H x.b x.l x.cap ∧ x.l.length = x.n := fun x hx => ⟨(C x hx).1.ch g id, (C x hx).2⟩
  refine yd (uL 0 8) [] (.i ((k : Nat) : Int) (rows1.length) (.l (qdC S o) (.i ((k : Nat) : Int) (rows2.length) (.l (qdC T p) .z)))) ?_; obtain ⟨s, U⟩ := q c (List.mem_of_getElem? o); obtain ⟨V, W⟩ := r d (List.mem_of_getElem? p); refine yK 8 (yQ ((qn8 c.b d.b c.cap d.cap c.l d.l _ s.rd V.rd (Nat.le_trans s.2.1 s.2.2.1) U W)) fun I h => ?_); have X := zu Q h iZ; have Y := zt R h eZ; have a3 : ∀ x ∈ rows1, LineAt I x.b x.l x.cap ∧ x.l.length = x.n := fun x hx => ⟨(q x hx).1.ch h id, (q x hx).2⟩
  have a4 : ∀ x ∈ rows2, LineAt I x.b x.l x.cap ∧ x.l.length = x.n := fun x hx => ⟨(r x hx).1.ch h id, (r x hx).2⟩
  refine q9 <| yd [9] [] .z <| yDe (nS ?_); refine yc (rN (rY (eqLB c.l d.l))) (fun t => ?_) fun t => ?_
  ·have v : ¬ c.l = d.l := of_decide_eq_false t; refine yx 1 <| qd (rB (rS (qy (rB (rS (yR1 (.bool false) ?_)))))); refine ⟨?_, Up.ch X⟩; rw [qju (qkw D F (by rw [E, G]; exact v))]
  have v : c.l = d.l := of_decide_eq_true t; refine qp (nB (nS ?_)); refine q7 <| yp 2 [] (.q6 (((k : Nat) : Int) + 1) .z) <| yE (fun a ha => M (k + 1) _ ⟨by omega, qcc m D F (by rw [E, G]; exact v), Y⟩ (by show rows1.length - (k + 1) < rows1.length - k; omega) a (ha.kp [0, 1, 12, 13]))
 have a5 : k = rows1.length := by omega
 refine qk (eS (qf (qe (nS ?_)))); refine yx 1 <| qd (yR1 (.bool true) ?_); refine ⟨?_, Up.ch A⟩; have J : M1.length = k := by rw [← hM1, List.length_map]; omega
 have Z : M2.length = k := by rw [← hM2, List.length_map]; omega
 rw [qmd (by rw [← J, List.take_length, J, ← Z, List.take_length] at m; exact m)]
set_option maxHeartbeats 4000000 in
theorem qg5 (a1 a2 : Option Addr) (c1 c2 : Nat) (rows1 rows2 : List Row) (M1 M2 : List (List Cel)) (hM1 : rows1.map Row.l = M1) (hM2 : rows2.map Row.l = M2) (w : World) (hn : rows1.length ≤ 1000) (hz : rows1.length = 0 ∨ rows2.length = 0) : Calls Tryz.prog 40 [.slice a1 rows1.length c1, .slice a2 rows2.length c2].toArray w fun e w' => e = .returned (.bool (eqRB M1 M2)) ∧ Ch (fun _ => False) w w' := by
 refine yA Tryz.func40 rfl <| yx 1 <| ys <| yx 5 <| yc (rI ((rows1.length : Nat) : Int) ((rows2.length : Nat) : Int)) (fun a => ?_) fun a => ?_
 ·have d := a; refine yx 1 <| qd (rS (yR1 (.bool false) ?_)); refine ⟨?_, Up.ch (zm w)⟩; rw [qju (fun e => d (by rw [← hM1, ← hM2] at e; have := congrArg List.length e; rw [List.length_map, List.length_map] at this; omega))]
 have m := a; refine yk <| ys <| yx 3 <| q8 <| qN [0, 1, 12, 13] (f' := [(0, .slice a1 rows1.length c1), (1, .slice a2 rows2.length c2), (12, iX ((rows1.length : Nat) : Int)), (13, iX 0)]) <| qw (σ := Nat) (fun k => [(0, .slice a1 rows1.length c1), (1, .slice a2 rows2.length c2), (12, iX ((rows1.length : Nat) : Int)), (13, iX ((k : Nat) : Int))]) (fun k u => k ≤ rows1.length ∧ M1.take k = M2.take k ∧ Ch (fun _ => False) w u) (fun k => rows1.length - k) 0 rfl ?_ ?_
 ·exact ⟨Nat.zero_le _, rfl, Ch.refl _ _⟩
 intro k n f o p; obtain ⟨hk, b, g⟩ := f; have h := zu (zm w) g iZ; refine yx 1 <| ys <| yc (rL ((k : Nat) : Int) ((rows1.length : Nat) : Int)) (fun i => ?_) fun i => ?_
 ·exfalso; omega
 have q : k = rows1.length := by omega
 refine qk (eS (qf (qe (nS ?_)))); refine yx 1 <| qd (yR1 (.bool true) ?_); refine ⟨?_, Up.ch h⟩; have c : M1.length = k := by rw [← hM1, List.length_map]; omega
 have j : M2.length = k := by rw [← hM2, List.length_map]; omega
 rw [qmd (by rw [← c, List.take_length, c, ← j, List.take_length] at b; exact b)]
theorem qn9 {w : World} {a1 a2 : Option Addr} {n1 n2 c1 c2 : Nat} {rows1 rows2 : List Row} {M1 M2 : List (List Cel)} {K1 K2 : Nat → Prop} (h1 : LinesAt w a1 n1 rows1 K1) (h2 : LinesAt w a2 n2 rows2 K2) (z1 : a1 = none ∨ ∃ b off, a1 = some ⟨b, off, none⟩) (z2 : a2 = none ∨ ∃ b off, a2 = some ⟨b, off, none⟩) (hM1 : rows1.map Row.l = M1) (hM2 : rows2.map Row.l = M2) (hn : n1 ≤ 1000) :
 Calls Tryz.prog 40 [.slice a1 n1 c1, .slice a2 n2 c2].toArray w fun e w' => e = .returned (.bool (eqRB M1 M2)) ∧ Ch (fun _ => False) w w' := by
 obtain rfl := h1.len; obtain rfl := h2.len; rcases z1 with rfl | ⟨a, c, rfl⟩
 ·exact qg5 none a2 c1 c2 rows1 rows2 M1 M2 hM1 hM2 w hn (.inl (by have := h1.rd.1 rfl; simpa using congrArg List.length this))
 rcases z2 with rfl | ⟨d, f, rfl⟩
 ·exact qg5 _ none c1 c2 rows1 rows2 M1 M2 hM1 hM2 w hn (.inr (by have := h2.rd.1 rfl; simpa using congrArg List.length this))
 exact qkW a c c1 d f c2 rows1 rows2 M1 M2 hM1 hM2 w h1.rd h2.rd hn h1.line h2.line
set_option maxHeartbeats 4000000 in
theorem gsame0 {w : World} (g1 r1 rc1 : Nat) (rows1 : List Row) (G1 : Gr) (M1 : List (List Cel)) (hM1 : rows1.map Row.l = M1) (hG1 : G1.lines = M1) (hh1 : Blk w g1 [iX G1.w, iX G1.h, .slice (some ⟨r1, 0, none⟩) rows1.length rc1] qdS) (hb1 : Rd w (some ⟨r1, 0, none⟩) (rows1.map Row.val)) (hl1 : ∀ x ∈ rows1, LineAt w x.b x.l x.cap ∧ x.l.length = x.n) (hn1 : rows1.length = G1.h.toNat) (hk10 : 1 ≤ G1.h ∧ G1.h ≤ 60) (g2 r2 rc2 : Nat) (rows2 : List Row) (G2 : Gr) (M2 : List (List Cel)) (hM2 : rows2.map Row.l = M2) (hG2 : G2.lines = M2) (hh2 : Blk w g2 [iX G2.w, iX G2.h, .slice (some ⟨r2, 0, none⟩) rows2.length rc2] qdS) (hb2 : Rd w (some ⟨r2, 0, none⟩) (rows2.map Row.val)) (hl2 : ∀ x ∈ rows2, LineAt w x.b x.l x.cap ∧ x.l.length = x.n) (hn2 : rows2.length = G2.h.toNat) (hk20 : 1 ≤ G2.h ∧ G2.h ≤ 60) : Calls Tryz.prog 39 [pX g1, pX g2].toArray w fun e w' => e = .returned (.bool (grB G1 G2)) ∧ Ch (fun _ => False) w w' := by
 refine yA Tryz.func39 rfl <| yx 1 <| ys <| ys <| yD [] fun q ah g => ?_; have r := zu (zm w) g iZ; have o := hh1.ch g id; have s := hh2.ch g id; have W := Ch.rd g hb1 id; have X := Ch.rd g hb2 id; have J : ∀ x ∈ rows1, LineAt q x.b x.l x.cap ∧ x.l.length = x.n := fun x hx => ⟨(hl1 x hx).1.ch g id, (hl1 x hx).2⟩
 have K : ∀ x ∈ rows2, LineAt q x.b x.l x.cap ∧ x.l.length = x.n := fun x hx => ⟨(hl2 x hx).1.ch g id, (hl2 x hx).2⟩
 refine yd (uL 0 10) [] (.l (o.c 0) (.l (s.c 0) .z)) <| yv [15] (rI G1.w G2.w) (fun t => ?_) fun t => ?_
 ·have v := t; refine yd (uL 10 10) [] .z <| yDe (nS ?_); refine yct <| yx 1 <| qd (rS (yR1 (.bool false) ?_)); refine ⟨?_, Up.ch r⟩; rw [grB_w v]
 have v : G1.w = G2.w := by have := t; omega
 refine yd (uL 10 10) [] (.l (o.c 1) (.l (s.c 1) .z)) <| yDe (nS ?_); refine yc (rI G1.h G2.h) (fun y => ?_) fun y => ?_
 ·have A := y; refine yx 1 <| qd (rS (yR1 (.bool false) ?_)); refine ⟨?_, Up.ch r⟩; rw [grB_h A]
 have A : G1.h = G2.h := by have := y; omega
 refine yk <| ys <| ysr <| yp 5 [] (.l (o.c 1) .z) <| ye <| q8 <| qN [0, 1, 29, 30] (f' := [(0, pX g1), (1, pX g2), (29, iX G1.h), (30, iX 0)]) <| qw (σ := Nat) (fun k => [(0, pX g1), (1, pX g2), (29, iX G1.h), (30, iX ((k : Nat) : Int))]) (fun k u => k ≤ rows1.length ∧ M1.take k = M2.take k ∧ Ch (fun _ => False) q u) (fun k => rows1.length - k) 0 rfl ?_ ?_
 ·exact ⟨Nat.zero_le _, rfl, Ch.refl _ _⟩
 intro k L Y ai Z; obtain ⟨hk, B, d⟩ := Y; have M := zu r d iZ; have a0 := o.ch d id; have a1 := s.ch d id; have a2 := Ch.rd d W id; have a3 := Ch.rd d X id; have N : ∀ x ∈ rows1, LineAt L x.b x.l x.cap ∧ x.l.length = x.n := fun x hx => ⟨(J x hx).1.ch d id, (J x hx).2⟩
 have O : ∀ x ∈ rows2, LineAt L x.b x.l x.cap ∧ x.l.length = x.n := fun x hx => ⟨(K x hx).1.ch d id, (K x hx).2⟩
 refine yx 1 <| ys <| yc (rL ((k : Nat) : Int) G1.h) (fun a4 => ?_) fun a4 => ?_
 ·obtain ⟨j, C⟩ := qdB (rows := rows1) (k := k) (by omega); obtain ⟨m, D⟩ := qdB (rows := rows2) (k := k) (by omega); obtain ⟨P, Q⟩ := qdA hM1 C; obtain ⟨R, S⟩ := qdA hM2 D; refine yk <| ys <| q8 <| yx 2 <| ys <| yD [14] fun T aj f => ?_; have a5 := zu M f iZ; have a6 := zt d f eZ; have a7 := a0.ch f id; have a8 := a1.ch f id; have a9 := Ch.rd f a2 id; have aa := Ch.rd f a3 id; have E : ∀ x ∈ rows1, LineAt T x.b x.l x.cap ∧ x.l.length = x.n := fun x hx => ⟨(N x hx).1.ch f id, (N x hx).2⟩
  have F : ∀ x ∈ rows2, LineAt T x.b x.l x.cap ∧ x.l.length = x.n := fun x hx => ⟨(O x hx).1.ch f id, (O x hx).2⟩
  refine yd (uL 0 14) [] (.l (a7.c 2) (.i ((k : Nat) : Int) (rows1.length) (.l (qdC a9 C) (.l (a8.c 2) (.i ((k : Nat) : Int) (rows2.length) (.l (qdC aa D) .z)))))) ?_; obtain ⟨G, ab⟩ := E j (List.mem_of_getElem? C); obtain ⟨ac, ad⟩ := F m (List.mem_of_getElem? D); refine yK 14 (yQ ((qiU j.b m.b j.cap m.cap j.l m.l _ G.rd ac.rd (Nat.le_trans G.2.1 G.2.2.1) ab ad)) fun U p => ?_); have ae := zu a5 p iZ; have af := zt a6 p eZ; have ak : ∀ x ∈ rows1, LineAt U x.b x.l x.cap ∧ x.l.length = x.n := fun x hx => ⟨(E x hx).1.ch p id, (E x hx).2⟩
  have al : ∀ x ∈ rows2, LineAt U x.b x.l x.cap ∧ x.l.length = x.n := fun x hx => ⟨(F x hx).1.ch p id, (F x hx).2⟩
  refine q9 <| yd [15] [] .z <| yDe (nS ?_); refine yc (rN (rY (eqLB j.l m.l))) (fun H => ?_) fun H => ?_
  ·have I : ¬ j.l = m.l := of_decide_eq_false H; refine yx 1 <| qd (rB (rS (qy (rB (rS (yR1 (.bool false) ?_)))))); refine ⟨?_, Up.ch ae⟩; rw [grB_l (by rw [hG1, hG2]; exact qkw P R (by rw [Q, S]; exact I))]
  have I : j.l = m.l := of_decide_eq_true H; refine qp (nB (nS ?_)); refine q7 <| yp 2 [] (.q6 (((k : Nat) : Int) + 1) .z) <| yE (fun a ha => Z (k + 1) _ ⟨by omega, qcc B P R (by rw [Q, S]; exact I), af⟩ (by show rows1.length - (k + 1) < rows1.length - k; omega) a (ha.kp [0, 1, 29, 30]))
 have am : k = rows1.length := by omega
 refine qk (eS (qf (qe (nS ?_)))); refine yx 1 <| qd (yR1 (.bool true) ?_); refine ⟨?_, Up.ch M⟩; have V : M1.length = k := by rw [← hM1, List.length_map]; omega
 have ag : M2.length = k := by rw [← hM2, List.length_map]; omega
 rw [grB_t v A (by rw [hG1, hG2]; rw [← V, List.take_length, V, ← ag, List.take_length] at B; exact B)]
theorem qie {w : World} {g1 g2 : Nat} {G1 G2 : Gr} {F1 F2 : Nat → Prop} (h1 : GridAt w g1 G1 F1) (h2 : GridAt w g2 G2 F2) : Calls Tryz.prog 39 [pX g1, pX g2].toArray w fun e w' => e = .returned (.bool (grB G1 G2)) ∧ Ch (fun _ => False) w w' := by
 obtain ⟨a, b, c, h1⟩ := h1; obtain ⟨d, f, g, h2⟩ := h2; exact gsame0 g1 a b c G1 G1.lines h1.lines rfl h1.head h1.body.rd h1.line h1.len h1.ok.2.1 g2 d f g G2 G2.lines h2.lines rfl h2.head h2.body.rd h2.line h2.len h2.ok.2.1
theorem qif {w : World} {b : Nat} : ∀ {vs : List Value} {o : Nat}, (∀ j v, vs[j]? = some v → w.cell? ⟨b, o + j, none⟩ = some v) → qbe (qcw b o vs) w
  | [], _, _ => trivial
  | u :: vs, o, h => ⟨h 0 u rfl, qif fun j v e => by rw [show o + 1 + j = o + (j + 1) by omega]; exact h (j + 1) v e⟩
theorem qna {w : World} {t g o : Nat} {T : TS} {bk ps : Value} (h : Blk w t (T.vals g o bk ps) qV) : qbe (qcw t 28 (qfo T.tabs)) w := qif fun j v e => by
  have hj : j < 60 := by
    have := (List.getElem?_eq_some_iff.1 e).1; simpa [qfo] using this
  have := qgr h ((j : Nat) : Int) (by omega) (by omega); rw [Int.toNat_natCast, Nat.mul_one] at this; rw [qlN _ _ hj] at e; exact this.trans e
set_option maxHeartbeats 4000000 in
theorem qig (b1 b2 pn pc qn qc : Nat) (p q : PS) (w : World) (h1 : Rd w (some ⟨b1, 0, none⟩) (p.params.map (Value.int .i64))) (h2 : Rd w (some ⟨b2, 0, none⟩) (q.params.map (Value.int .i64))) (hp2 : p.params.length = pn) (hq2 : q.params.length = qn) (hn : pn ≤ 1000) (hn2 : qn ≤ 1000) : Calls Tryz.prog 41 [.agg #[iX p.state, uX p.utf.b0, uX p.utf.b1, uX p.utf.b2, iX p.utf.n, .string p.marks, .slice (some ⟨b1, 0, none⟩) pn pc, .string p.text, iX p.within], .agg #[iX q.state, uX q.utf.b0, uX q.utf.b1, uX q.utf.b2, iX q.utf.n, .string q.marks, .slice (some ⟨b2, 0, none⟩) qn qc, .string q.text, iX q.within]].toArray w fun e w' => e = .returned (.bool (psB p q)) ∧ Ch (fun _ => False) w w' := by
 refine yA Tryz.func41 rfl <| ysr <| yo (yN [iX p.state, uX p.utf.b0, uX p.utf.b1, uX p.utf.b2, iX p.utf.n, .string p.marks, .slice (some ⟨b1, 0, none⟩) pn pc, .string p.text, iX p.within] 55 fun ai K O aj P y => ?_); have ak := zn O (zm w); have L := zu (zm w) y iZ; have Q := Ch.rd y h1 id; have R := Ch.rd y h2 id; refine yo (yN [iX q.state, uX q.utf.b0, uX q.utf.b1, uX q.utf.b2, iX q.utf.n, .string q.marks, .slice (some ⟨b2, 0, none⟩) qn qc, .string q.text, iX q.within] 55 fun S M T al d v => ?_); have am := zn T L; have f := zu L v iZ; have U := Ch.rd v Q id; have V := Ch.rd v R id; have b := P.ch v id; refine yz 3 <| ys <| ysr <| yp 6 [] (.l (b.c 0) (.l (d.c 0) .z)) <| yw [11] (rI p.state q.state) (fun A => ?_) fun A => ?_
 ·have W : decide (p.state = q.state) = false := decide_eq_false (by have := A; omega); refine yz 53 <| yct <| yx 1 <| qd (rS (yR1 (.bool false) ?_)); refine ⟨zc ?_, Up.ch f⟩; simp only [psB, W, Bool.false_and, Bool.true_and, Bool.and_false]
 have g : decide (p.state = q.state) = true := decide_eq_true (by have := A; omega); refine yp 13 [] (.l (b.c 8) (.l (d.c 8) .z)) <| yw [18] (rI p.within q.within) (fun B => ?_) fun B => ?_
 ·have X : decide (p.within = q.within) = false := decide_eq_false (by have := B; omega); refine yz 53 <| yct <| yx 1 <| qd (rS (yR1 (.bool false) ?_)); refine ⟨zc ?_, Up.ch f⟩; simp only [psB, g, X, Bool.false_and, Bool.true_and, Bool.and_false]
 have h : decide (p.within = q.within) = true := decide_eq_true (by have := B; omega); refine yp 20 [] (.l (b.c 5) (.l (d.c 5) .z)) <| yw [25] (rN (rY ((p.marks).toList == (q.marks).toList))) (fun C => ?_) fun C => ?_
 ·have Y := C; refine yz 53 <| yct <| yx 1 <| qd (rS (yR1 (.bool false) ?_)); refine ⟨zc ?_, Up.ch f⟩; simp only [psB, g, h, Y, Bool.false_and, Bool.true_and, Bool.and_false]
 have j := C; refine yp 27 [] (.l (b.c 7) (.l (d.c 7) .z)) <| yw [32] (rN (rY ((p.text).toList == (q.text).toList))) (fun D => ?_) fun D => ?_
 ·have Z := D; refine yz 53 <| yct <| yx 1 <| qd (rS (yR1 (.bool false) ?_)); refine ⟨zc ?_, Up.ch f⟩; simp only [psB, g, h, j, Z, Bool.false_and, Bool.true_and, Bool.and_false]
 have s := D; refine yp 36 [] (.l (b.c 4) (.l (d.c 4) .z)) <| yw [41] (rI p.utf.n q.utf.n) (fun E => ?_) fun E => ?_
 ·have a0 : decide (p.utf.n = q.utf.n) = false := decide_eq_false (by have := E; omega); refine yz 53 <| yct <| yx 1 <| qd (rS (yR1 (.bool false) ?_)); refine ⟨zc ?_, Up.ch f⟩; simp only [psB, g, h, j, s, a0, Bool.false_and, Bool.true_and, Bool.and_false]
 have x : decide (p.utf.n = q.utf.n) = true := decide_eq_true (by have := E; omega); refine yp 45 [] (.a (b.cs 1 3) (.a (d.cs 1 3) .z)) <| yw [50] (rN (rY (((p.utf.b0 : Int) == q.utf.b0) && (((p.utf.b1 : Int) == q.utf.b1) && (((p.utf.b2 : Int) == q.utf.b2) && true))))) (fun F => ?_) fun F => ?_
 ·have a1 := F; refine yz 53 <| yct <| yx 1 <| qd (rS (yR1 (.bool false) ?_)); refine ⟨zc ?_, Up.ch f⟩; simp only [psB, g, h, j, s, x, a1, Bool.false_and, Bool.true_and, Bool.and_false]
 have G := F; refine yp 53 [] (.l (b.c 6) (.l (d.c 6) .z)) <| ye <| yc (rI ((pn : Nat) : Int) ((qn : Nat) : Int)) (fun H => ?_) fun H => ?_
 ·have a2 := H; refine yx 1 <| qd (rS (yR1 (.bool false) ?_)); have t : qek p.params q.params = false := qeT (fun e => a2 (by rw [← hp2, ← hq2, e])); refine ⟨zc ?_, Up.ch f⟩; simp only [psB, g, h, j, s, x, G, t, Bool.false_and, Bool.true_and, Bool.and_false]
 have an := H; refine yk <| ys <| ysr <| yp 4 [] (.l (b.c 6) .z) <| ye <| q8 <| qN [2, 3, 61, 62] (f' := [(2, pX K), (3, pX M), (61, iX ((pn : Nat) : Int)), (62, iX 0)]) <| qw (σ := Nat) (fun k => [(2, pX K), (3, pX M), (61, iX ((pn : Nat) : Int)), (62, iX ((k : Nat) : Int))]) (fun k u => k ≤ pn ∧ p.params.take k = q.params.take k ∧ Ch (fun _ => False) S u) (fun k => pn - k) 0 rfl ?_ ?_
 ·exact ⟨Nat.zero_le _, rfl, Ch.refl _ _⟩
 intro k ao a3 ap a4; obtain ⟨hk, I, m⟩ := a3; have N := zu f m iZ; have a5 := Ch.rd m U id; have a6 := Ch.rd m V id; have a7 := b.ch m id; have a8 := d.ch m id; refine yx 1 <| ys <| yc (rL ((k : Nat) : Int) ((pn : Nat) : Int)) (fun a9 => ?_) fun a9 => ?_
 ·refine yk <| ys <| q8 <| yx 2 <| ys <| yD [] fun aq ar r => ?_; have aa := zu N r iZ; have ab := zt m r eZ; have ac := Ch.rd r a5 id; have ad := Ch.rd r a6 id; have ae := a7.ch r id; have af := a8.ch r id; refine yd (uL 0 11) [] (.l (ae.c 6) (.i ((k : Nat) : Int) (pn) (.l (o := (0 + (((k : Nat) : Int)).toNat * 1)) (qbj ac k (by omega)) (.l (af.c 6) (.i ((k : Nat) : Int) (qn) (.l (o := (0 + (((k : Nat) : Int)).toNat * 1)) (qbj ad k (by omega)) .z)))))) <| yDe (nS ?_); refine yc (rI (p.params.getD k 0) (q.params.getD k 0)) (fun J => ?_) fun J => ?_
  ·refine yx 1 <| qd (rB (rS (qy (rB (rS (yR1 (.bool false) ?_)))))); have t : qek p.params q.params = false := qeT (qkw (k := k) (by omega) (by omega) (fun e => J (by rw [qcG (by omega), qcG (by omega)]; exact e))); refine ⟨zc ?_, Up.ch aa⟩; simp only [psB, g, h, j, s, x, G, t, Bool.false_and, Bool.true_and, Bool.and_false]
  refine qp (nB (nS ?_)); refine q7 <| yp 2 [] (.q6 (((k : Nat) : Int) + 1) .z) <| yE (fun a ha => a4 (k + 1) _ ⟨by omega, qcc I (by omega) (by omega) (by rw [qcG (by omega), qcG (by omega)] at J; omega), ab⟩ (by show pn - (k + 1) < pn - k; omega) a (ha.kp [2, 3, 61, 62]))
 have ag : k = pn := by omega
 refine qk (eS (qf (qe (nS ?_)))); refine yx 1 <| qd (yR1 (.bool true) ?_); have ah : q.params.length = p.params.length := by omega
 have t : qek p.params q.params = true := qgL (by rw [ag, ← hp2, List.take_length, ← ah, List.take_length] at I; exact I); refine ⟨zc ?_, Up.ch N⟩; simp only [psB, g, h, j, s, x, G, t, Bool.false_and, Bool.true_and, Bool.and_false]
set_option maxHeartbeats 4000000 in
theorem qeh (a1 a2 : Option Addr) (pn pc qn qc : Nat) (p q : PS) (w : World) (hz : pn = 0 ∨ qn = 0) (hp2 : p.params.length = pn) (hq2 : q.params.length = qn) (hn : pn ≤ 1000) (hn2 : qn ≤ 1000) : Calls Tryz.prog 41 [.agg #[iX p.state, uX p.utf.b0, uX p.utf.b1, uX p.utf.b2, iX p.utf.n, .string p.marks, .slice a1 pn pc, .string p.text, iX p.within], .agg #[iX q.state, uX q.utf.b0, uX q.utf.b1, uX q.utf.b2, iX q.utf.n, .string q.marks, .slice a2 qn qc, .string q.text, iX q.within]].toArray w fun e w' => e = .returned (.bool (psB p q)) ∧ Ch (fun _ => False) w w' := by
 refine yA Tryz.func41 rfl <| ysr <| yo (yN [iX p.state, uX p.utf.b0, uX p.utf.b1, uX p.utf.b2, iX p.utf.n, .string p.marks, .slice a1 pn pc, .string p.text, iX p.within] 55 fun Z B H a0 I J => ?_); have a3 := zn H (zm w); have C := zu (zm w) J iZ; refine yo (yN [iX q.state, uX q.utf.b0, uX q.utf.b1, uX q.utf.b2, iX q.utf.n, .string q.marks, .slice a2 qn qc, .string q.text, iX q.within] 55 fun K D L a4 f E => ?_); have a5 := zn L C; have b := zu C E iZ; have d := I.ch E id; refine yz 3 <| ys <| ysr <| yp 6 [] (.l (d.c 0) (.l (f.c 0) .z)) <| yw [11] (rI p.state q.state) (fun m => ?_) fun m => ?_
 ·have M : decide (p.state = q.state) = false := decide_eq_false (by have := m; omega); refine yz 53 <| yct <| yx 1 <| qd (rS (yR1 (.bool false) ?_)); refine ⟨zc ?_, Up.ch b⟩; simp only [psB, M, Bool.false_and, Bool.true_and, Bool.and_false]
 have g : decide (p.state = q.state) = true := decide_eq_true (by have := m; omega); refine yp 13 [] (.l (d.c 8) (.l (f.c 8) .z)) <| yw [18] (rI p.within q.within) (fun o => ?_) fun o => ?_
 ·have N : decide (p.within = q.within) = false := decide_eq_false (by have := o; omega); refine yz 53 <| yct <| yx 1 <| qd (rS (yR1 (.bool false) ?_)); refine ⟨zc ?_, Up.ch b⟩; simp only [psB, g, N, Bool.false_and, Bool.true_and, Bool.and_false]
 have h : decide (p.within = q.within) = true := decide_eq_true (by have := o; omega); refine yp 20 [] (.l (d.c 5) (.l (f.c 5) .z)) <| yw [25] (rN (rY ((p.marks).toList == (q.marks).toList))) (fun r => ?_) fun r => ?_
 ·have O := r; refine yz 53 <| yct <| yx 1 <| qd (rS (yR1 (.bool false) ?_)); refine ⟨zc ?_, Up.ch b⟩; simp only [psB, g, h, O, Bool.false_and, Bool.true_and, Bool.and_false]
 have i := r; refine yp 27 [] (.l (d.c 7) (.l (f.c 7) .z)) <| yw [32] (rN (rY ((p.text).toList == (q.text).toList))) (fun s => ?_) fun s => ?_
 ·have P := s; refine yz 53 <| yct <| yx 1 <| qd (rS (yR1 (.bool false) ?_)); refine ⟨zc ?_, Up.ch b⟩; simp only [psB, g, h, i, P, Bool.false_and, Bool.true_and, Bool.and_false]
 have j := s; refine yp 36 [] (.l (d.c 4) (.l (f.c 4) .z)) <| yw [41] (rI p.utf.n q.utf.n) (fun t => ?_) fun t => ?_
 ·have Q : decide (p.utf.n = q.utf.n) = false := decide_eq_false (by have := t; omega); refine yz 53 <| yct <| yx 1 <| qd (rS (yR1 (.bool false) ?_)); refine ⟨zc ?_, Up.ch b⟩; simp only [psB, g, h, i, j, Q, Bool.false_and, Bool.true_and, Bool.and_false]
 have v : decide (p.utf.n = q.utf.n) = true := decide_eq_true (by have := t; omega); refine yp 45 [] (.a (d.cs 1 3) (.a (f.cs 1 3) .z)) <| yw [50] (rN (rY (((p.utf.b0 : Int) == q.utf.b0) && (((p.utf.b1 : Int) == q.utf.b1) && (((p.utf.b2 : Int) == q.utf.b2) && true))))) (fun x => ?_) fun x => ?_
 ·have R := x; refine yz 53 <| yct <| yx 1 <| qd (rS (yR1 (.bool false) ?_)); refine ⟨zc ?_, Up.ch b⟩; simp only [psB, g, h, i, j, v, R, Bool.false_and, Bool.true_and, Bool.and_false]
 have F := x; refine yp 53 [] (.l (d.c 6) (.l (f.c 6) .z)) <| ye <| yc (rI ((pn : Nat) : Int) ((qn : Nat) : Int)) (fun y => ?_) fun y => ?_
 ·have S := y; refine yx 1 <| qd (rS (yR1 (.bool false) ?_)); have A : qek p.params q.params = false := qeT (fun e => S (by rw [← hp2, ← hq2, e])); refine ⟨zc ?_, Up.ch b⟩; simp only [psB, g, h, i, j, v, F, A, Bool.false_and, Bool.true_and, Bool.and_false]
 have a6 := y; refine yk <| ys <| ysr <| yp 4 [] (.l (d.c 6) .z) <| ye <| q8 <| qN [2, 3, 61, 62] (f' := [(2, pX B), (3, pX D), (61, iX ((pn : Nat) : Int)), (62, iX 0)]) <| qw (σ := Nat) (fun k => [(2, pX B), (3, pX D), (61, iX ((pn : Nat) : Int)), (62, iX ((k : Nat) : Int))]) (fun k u => k ≤ pn ∧ p.params.take k = q.params.take k ∧ Ch (fun _ => False) K u) (fun k => pn - k) 0 rfl ?_ ?_
 ·exact ⟨Nat.zero_le _, rfl, Ch.refl _ _⟩
 intro k a7 T a8 a9; obtain ⟨hk, G, U⟩ := T; have V := zu b U iZ; refine yx 1 <| ys <| yc (rL ((k : Nat) : Int) ((pn : Nat) : Int)) (fun W => ?_) fun W => ?_
 ·exfalso; omega
 have X : k = pn := by omega
 refine qk (eS (qf (qe (nS ?_)))); refine yx 1 <| qd (yR1 (.bool true) ?_); have Y : q.params.length = p.params.length := by omega
 have A : qek p.params q.params = true := qgL (by rw [X, ← hp2, List.take_length, ← Y, List.take_length] at G; exact G); refine ⟨zc ?_, Up.ch V⟩; simp only [psB, g, h, i, j, v, F, A, Bool.false_and, Bool.true_and, Bool.and_false]
theorem qiV {w : World} {a1 a2 : Option Addr} {pn pc qn qc : Nat} (p q : PS) (h1 : Rd w a1 (p.params.map (Value.int .i64))) (h2 : Rd w a2 (q.params.map (Value.int .i64))) (z1 : ∃ po : Option Nat, a1 = po.map at0) (z2 : ∃ po : Option Nat, a2 = po.map at0) (hp2 : p.params.length = pn) (hq2 : q.params.length = qn) (hn : pn ≤ 1000) (hn2 : qn ≤ 1000) :
 Calls Tryz.prog 41 [.agg #[iX p.state, uX p.utf.b0, uX p.utf.b1, uX p.utf.b2, iX p.utf.n, .string p.marks, .slice a1 pn pc, .string p.text, iX p.within], .agg #[iX q.state, uX q.utf.b0, uX q.utf.b1, uX q.utf.b2, iX q.utf.n, .string q.marks, .slice a2 qn qc, .string q.text, iX q.within]].toArray w fun e w' => e = .returned (.bool (psB p q)) ∧ Ch (fun _ => False) w w' := by
 obtain ⟨a, rfl⟩ := z1; obtain ⟨b, rfl⟩ := z2; rcases a with _ | b1
 ·exact qeh _ _ pn pc qn qc p q w (.inl (by have := h1.1 rfl; rw [← hp2]; simpa using congrArg List.length this)) hp2 hq2 hn hn2
 rcases b with _ | b2
 ·exact qeh _ _ pn pc qn qc p q w (.inr (by have := h2.1 rfl; rw [← hq2]; simpa using congrArg List.length this)) hp2 hq2 hn hn2
 exact qig b1 b2 pn pc qn qc p q w h1 h2 hp2 hq2 hn hn2
set_option maxRecDepth 100000 in
set_option maxHeartbeats 4000000 in
theorem alike_in {w : World} {t1 g1 o1 : Nat} {ba1 : Option Addr} {bn1 bc1 : Nat} {pa1 : Option Addr} {pn1 pc1 : Nat} {T : TS} {F1 F11 F21 FB1 FP1 : Nat → Prop} (hI1 : TermIn w t1 g1 o1 ba1 bn1 bc1 pa1 pn1 pc1 T F1 F11 F21 FB1 FP1) (hbn1 : bn1 ≤ 1000) (hpn1 : pn1 ≤ 1000) {t2 g2 o2 : Nat} {ba2 : Option Addr} {bn2 bc2 : Nat} {pa2 : Option Addr} {pn2 pc2 : Nat} {U : TS} {F2 F12 F22 FB2 FP2 : Nat → Prop} (hI2 : TermIn w t2 g2 o2 ba2 bn2 bc2 pa2 pn2 pc2 U F2 F12 F22 FB2 FP2) (hbn2 : bn2 ≤ 1000) (hpn2 : pn2 ≤ 1000) : Calls Tryz.prog 15 [pX t1, pX t2].toArray w fun e w' => e = .returned (.bool (qas T U)) ∧ Ch (fun _ => False) w w' := by
 refine yA Tryz.func15 rfl <| yx 1 <| ys <| ys <| yD [8, 19, 31] fun aL aM L => ?_; have M := zu (zm w) L iZ; have ad := hI1.blk.ch L id; have ae := hI2.blk.ch L id; refine qip (by kernel_rfl) (fun i => ?_); refine yg i (uL 0 8) [] (.l (ad.c 0) (.l (ae.c 0) .z)) <| yK 8 (yQ (qie (hI1.same (Up.ch M) iZ).g1 (hI2.same (Up.ch M) iZ).g1) fun aN N => ?_); have E := zu M N iZ; have af := ad.ch N id; have ag := ae.ch N id; refine q9 <| yg i [9, 10] [] .z <| yv [15] (rN (rY (grB T.grid U.grid))) (fun O => ?_) fun O => ?_
 ·have ak := O; refine yg i (uL 11 56) [] .z <| yGe (nS ?_); refine yct <| yx 1 <| qd (rS (yR1 (.bool false) ?_)); refine ⟨zc ?_, Up.ch E⟩; simp only [qas, ak, Bool.false_and, Bool.true_and, Bool.and_false]
 have b := O; refine yg i (uL 11 8) [] (.l (af.c 1) (.l (ag.c 1) .z)) <| yK 19 (yQ (qie (hI1.same (Up.ch E) iZ).g2 (hI2.same (Up.ch E) iZ).g2) fun aO P => ?_); have F := zu E P iZ; have ah := af.ch P id; have ai := ag.ch P id; refine q9 <| yg i (uL 20 3) [] .z <| yv [27] (rN (rY (grB T.other U.other))) (fun Q => ?_) fun Q => ?_
 ·have al := Q; refine yg i (uL 23 44) [] .z <| yGe (nS ?_); refine yct <| yx 1 <| qd (rS (yR1 (.bool false) ?_)); refine ⟨zc ?_, Up.ch F⟩; simp only [qas, b, al, Bool.false_and, Bool.true_and, Bool.and_false]
 have d := Q; refine yg i (uL 23 8) [] (.l (ah.c 97) (.l (ai.c 97) .z)) ?_; obtain ⟨aP, am, an⟩ := (hI1.same (Up.ch F) iZ).bk; obtain ⟨aQ, ao, ap⟩ := (hI2.same (Up.ch F) iZ).bk; refine yK 31 (yQ (qn9 (c1 := bc1) (c2 := bc2) am ao hI1.bz hI2.bz an ap (by omega)) fun aR R => ?_); have C := zu F R iZ; have G := ah.ch R id; have H := ai.ch R id; refine q9 <| yg i (uL 32 3) [] .z <| yv [39] (rN (rY (eqRB T.back U.back))) (fun S => ?_) fun S => ?_
 ·have aq := S; refine yg i (uL 35 32) [] .z <| yGe (nS ?_); refine yct <| yx 1 <| qd (rS (yR1 (.bool false) ?_)); refine ⟨zc ?_, Up.ch C⟩; simp only [qas, b, d, aq, Bool.false_and, Bool.true_and, Bool.and_false]
 have g := S; refine yg i (uL 35 11) [] (.a (G.cs 2 8) (.a (H.cs 2 8) .z)) <| yv [50] (rN (rY (((T.cursor.x : Int) == U.cursor.x) && (((T.cursor.y : Int) == U.cursor.y) && ((T.cursor.late == U.cursor.late) && (((T.cursor.sty.bold == U.cursor.sty.bold) && ((T.cursor.sty.under == U.cursor.sty.under) && ((T.cursor.sty.turned == U.cursor.sty.turned) && (((T.cursor.sty.fore : Int) == U.cursor.sty.fore) && (((T.cursor.sty.back : Int) == U.cursor.sty.back) && true))))) && true)))))) (fun V => ?_) fun V => ?_
 ·have ar := V; refine yg i (uL 46 21) [] .z <| yGe (nS ?_); refine yct <| yx 1 <| qd (rS (yR1 (.bool false) ?_)); refine ⟨zc ?_, Up.ch C⟩; simp only [qas, b, d, g, ar, Bool.false_and, Bool.true_and, Bool.and_false]
 have h := V; refine yg i (uL 46 11) [] (.a (G.cs 18 8) (.a (H.cs 18 8) .z)) <| yv [61] (rN (rY (((T.away.x : Int) == U.away.x) && (((T.away.y : Int) == U.away.y) && ((T.away.late == U.away.late) && (((T.away.sty.bold == U.away.sty.bold) && ((T.away.sty.under == U.away.sty.under) && ((T.away.sty.turned == U.away.sty.turned) && (((T.away.sty.fore : Int) == U.away.sty.fore) && (((T.away.sty.back : Int) == U.away.sty.back) && true))))) && true)))))) (fun W => ?_) fun W => ?_
 ·have au := W; refine yg i (uL 57 10) [] .z <| yGe (nS ?_); refine yct <| yx 1 <| qd (rS (yR1 (.bool false) ?_)); refine ⟨zc ?_, Up.ch C⟩; simp only [qas, b, d, g, h, au, Bool.false_and, Bool.true_and, Bool.and_false]
 have j := W; refine yg i (uL 57 10) [] (.a (G.cs 10 8) (.a (H.cs 10 8) .z)) <| yGe (nS ?_); refine yc (rN (rY (((T.saved.x : Int) == U.saved.x) && (((T.saved.y : Int) == U.saved.y) && ((T.saved.late == U.saved.late) && (((T.saved.sty.bold == U.saved.sty.bold) && ((T.saved.sty.under == U.saved.sty.under) && ((T.saved.sty.turned == U.saved.sty.turned) && (((T.saved.sty.fore : Int) == U.saved.sty.fore) && (((T.saved.sty.back : Int) == U.saved.sty.back) && true))))) && true)))))) (fun X => ?_) fun X => ?_
 ·have av := X; refine yx 1 <| qd (rS (yR1 (.bool false) ?_)); refine ⟨zc ?_, Up.ch C⟩; simp only [qas, b, d, g, h, j, av, Bool.false_and, Bool.true_and, Bool.and_false]
 have k := X; refine yk <| ys <| ys <| yD [] fun aS aT Y => ?_; have o := zu C Y iZ; have p := G.ch Y id; have q := H.ch Y id; refine qip (by kernel_rfl) (fun f => ?_); refine yg f (uL 0 10) [] (.l (p.c 26) (.l (q.c 26) .z)) <| yv [81] (rI T.top U.top) (fun Z => ?_) fun Z => ?_
 ·have aw : decide (T.top = U.top) = false := decide_eq_false (by have := Z; omega); refine yg f (uL 10 87) [] .z <| qfl [0, 1, 168] (f' := [(0, pX t1), (1, pX t2), (168, .bool true)]) <| yGe (nS ?_); refine yct <| yx 1 <| qd (rS (yR1 (.bool false) ?_)); refine ⟨zc ?_, Up.ch o⟩; simp only [qas, b, d, g, h, j, k, aw, Bool.false_and, Bool.true_and, Bool.and_false]
 have m : decide (T.top = U.top) = true := decide_eq_true (by have := Z; omega); refine yg f (uL 10 11) [] (.l (p.c 27) (.l (q.c 27) .z)) <| yv [92] (rI T.bot U.bot) (fun a0 => ?_) fun a0 => ?_
 ·have ax : decide (T.bot = U.bot) = false := decide_eq_false (by have := a0; omega); refine yg f (uL 21 76) [] .z <| qfl [0, 1, 168] (f' := [(0, pX t1), (1, pX t2), (168, .bool true)]) <| yGe (nS ?_); refine yct <| yx 1 <| qd (rS (yR1 (.bool false) ?_)); refine ⟨zc ?_, Up.ch o⟩; simp only [qas, b, d, g, h, j, k, m, ax, Bool.false_and, Bool.true_and, Bool.and_false]
 have n : decide (T.bot = U.bot) = true := decide_eq_true (by have := a0; omega); refine yg f (uL 21 11) [] (.a (qna p) (.a (qna q) .z)) <| yv [103] (rN (rY (tabsB T.tabs U.tabs))) (fun a1 => ?_) fun a1 => ?_
 ·have ay := a1; refine yg f (uL 32 65) [] .z <| qfl [0, 1, 168] (f' := [(0, pX t1), (1, pX t2), (168, .bool true)]) <| yGe (nS ?_); refine yct <| yx 1 <| qd (rS (yR1 (.bool false) ?_)); refine ⟨zc ?_, Up.ch o⟩; simp only [qas, b, d, g, h, j, k, m, n, ay, Bool.false_and, Bool.true_and, Bool.and_false]
 have r := a1; refine yg f (uL 32 11) [] (.l (p.c 88) (.l (q.c 88) .z)) <| yv [114] (rN (rY (T.wrap == U.wrap))) (fun a2 => ?_) fun a2 => ?_
 ·have az := a2; refine yg f (uL 43 54) [] .z <| qfl [0, 1, 168] (f' := [(0, pX t1), (1, pX t2), (168, .bool true)]) <| yGe (nS ?_); refine yct <| yx 1 <| qd (rS (yR1 (.bool false) ?_)); refine ⟨zc ?_, Up.ch o⟩; simp only [qas, b, d, g, h, j, k, m, n, r, az, Bool.false_and, Bool.true_and, Bool.and_false]
 have s := a2; refine yg f (uL 43 11) [] (.l (p.c 89) (.l (q.c 89) .z)) <| yv [125] (rN (rY (T.origin == U.origin))) (fun a3 => ?_) fun a3 => ?_
 ·have aA := a3; refine yg f (uL 54 43) [] .z <| qfl [0, 1, 168] (f' := [(0, pX t1), (1, pX t2), (168, .bool true)]) <| yGe (nS ?_); refine yct <| yx 1 <| qd (rS (yR1 (.bool false) ?_)); refine ⟨zc ?_, Up.ch o⟩; simp only [qas, b, d, g, h, j, k, m, n, r, s, aA, Bool.false_and, Bool.true_and, Bool.and_false]
 have t := a3; refine yg f (uL 54 11) [] (.l (p.c 90) (.l (q.c 90) .z)) <| qfl [0, 1, 136] (f' := [(0, pX t1), (1, pX t2), (136, .bool (!(T.insert == U.insert)))]) <| yv [136] (rN (rY (T.insert == U.insert))) (fun a4 => ?_) fun a4 => ?_
 ·have aB := a4; refine yg f (uL 65 32) [] .z <| yGe (nS ?_); refine yct <| yx 1 <| qd (rS (yR1 (.bool false) ?_)); refine ⟨zc ?_, Up.ch o⟩; simp only [qas, b, d, g, h, j, k, m, n, r, s, t, aB, Bool.false_and, Bool.true_and, Bool.and_false]
 have v := a4; refine yg f (uL 65 11) [] (.l (p.c 91) (.l (q.c 91) .z)) <| yv [147] (rN (rY (T.hidden == U.hidden))) (fun a5 => ?_) fun a5 => ?_
 ·have aC := a5; refine yg f (uL 76 21) [] .z <| yGe (nS ?_); refine yct <| yx 1 <| qd (rS (yR1 (.bool false) ?_)); refine ⟨zc ?_, Up.ch o⟩; simp only [qas, b, d, g, h, j, k, m, n, r, s, t, v, aC, Bool.false_and, Bool.true_and, Bool.and_false]
 have A := a5; refine yg f (uL 76 11) [] (.a (p.cs 92 2) (.a (q.cs 92 2) .z)) <| yv [158] (rN (rY ((T.draw0 == U.draw0) && ((T.draw1 == U.draw1) && true)))) (fun a6 => ?_) fun a6 => ?_
 ·have aD := a6; refine yg f (uL 87 10) [] .z <| yGe (nS ?_); refine yct <| yx 1 <| qd (rS (yR1 (.bool false) ?_)); refine ⟨zc ?_, Up.ch o⟩; simp only [qas, b, d, g, h, j, k, m, n, r, s, t, v, A, aD, Bool.false_and, Bool.true_and, Bool.and_false]
 have D := a6; refine yg f (uL 87 10) [] (.l (p.c 94) (.l (q.c 94) .z)) <| yGe (nS ?_); refine yc (rN (rY (T.shift == U.shift))) (fun a7 => ?_) fun a7 => ?_
 ·have aE := a7; refine yx 1 <| qd (rS (yR1 (.bool false) ?_)); refine ⟨zc ?_, Up.ch o⟩; simp only [qas, b, d, g, h, j, k, m, n, r, s, t, v, A, D, aE, Bool.false_and, Bool.true_and, Bool.and_false]
 have I := a7; refine yk <| ys <| yD [40] fun aU aV a8 => ?_; have B := zu o a8 iZ; have J := p.ch a8 id; have K := q.ch a8 id; refine qip (by kernel_rfl) (fun u => ?_); refine yg u (uL 0 10) [] (.l (J.c 95) (.l (K.c 95) .z)) <| yv [178] (rY (T.alt == U.alt)) (fun a9 => ?_) fun a9 => ?_
 ·have aa := a9; refine yg u (uL 10 11) [] (.l (J.c 96) (.l (K.c 96) .z)) <| yv [189] (rY ((T.title).toList == (U.title).toList)) (fun ab => ?_) fun ab => ?_
  ·have aj := ab; refine yg u (uL 21 11) [] (.l (J.c 107) (.l (K.c 107) .z)) <| yv [200] (rY ((T.reply).toList == (U.reply).toList)) (fun ac => ?_) fun ac => ?_
   ·have aF := ac; refine yg u (uL 32 8) [] (.a (J.cs 98 9) (.a (K.cs 98 9) .z)) <| yK 40 (yQ (qiV (pc := pc1) (qc := pc2) T.parser U.parser (hI1.same (Up.ch B) iZ).ps.1 (hI2.same (Up.ch B) iZ).ps.1 hI1.pz hI2.pz hI1.ps.2.1 hI2.ps.2.1 (by omega) (by omega)) fun aW aG => ?_); have aH := zu B aG iZ; refine q9 <| yg u [41, 42] [] .z <| yGe (nS ?_); refine qd (yR1 (.bool (psB T.parser U.parser)) ?_); refine ⟨zc ?_, Up.ch aH⟩; simp only [qas, b, d, g, h, j, k, m, n, r, s, t, v, A, D, I, aa, aj, aF, Bool.false_and, Bool.true_and, Bool.and_false]
   have aI := ac; refine yg u (uL 32 11) [] .z <| yGe (nS ?_); refine qd (yR1 (.bool false) ?_); refine ⟨zc ?_, Up.ch B⟩; simp only [qas, b, d, g, h, j, k, m, n, r, s, t, v, A, D, I, aa, aj, aI, Bool.false_and, Bool.true_and, Bool.and_false]
  have aJ := ab; refine yg u (uL 21 22) [] .z <| yGe (nS ?_); refine qd (yR1 (.bool false) ?_); refine ⟨zc ?_, Up.ch B⟩; simp only [qas, b, d, g, h, j, k, m, n, r, s, t, v, A, D, I, aa, aJ, Bool.false_and, Bool.true_and, Bool.and_false]
 have aK := a9; refine yg u (uL 10 33) [] .z <| yGe (nS ?_); refine qd (yR1 (.bool false) ?_); refine ⟨zc ?_, Up.ch B⟩; simp only [qas, b, d, g, h, j, k, m, n, r, s, t, v, A, D, I, aK, Bool.false_and, Bool.true_and, Bool.and_false]
theorem alike_at {w : World} {t1 t2 : Nat} {T U : TS} {F1 F2 : Nat → Prop} (h1 : TermAt w t1 T F1) (h2 : TermAt w t2 U F2) (b1 : T.back.length ≤ 1000) (b2 : U.back.length ≤ 1000) (p1 : T.parser.params.length ≤ 1000) (p2 : U.parser.params.length ≤ 1000) : Calls Tryz.prog 15 [pX t1, pX t2].toArray w fun e w' => e = .returned (.bool (qas T U)) ∧ Ch (fun _ => False) w w' := by
 obtain ⟨b, c, d, f, g, h, i, j, k, l, m, n, h1⟩ := h1; obtain ⟨o, p, q, r, s, t, u, v, x, y, z, A, h2⟩ := h2; refine alike_in h1 ?_ ?_ h2 ?_ ?_
 ·obtain ⟨a, hL, e⟩ := h1.bk; rw [← hL.len]; rw [← e, List.length_map] at b1; exact b1
 ·rw [← h1.ps.2.1]; exact p1
 ·obtain ⟨a, hL, e⟩ := h2.bk; rw [← hL.len]; rw [← e, List.length_map] at b2; exact b2
 rw [← h2.ps.2.1]; exact p2
section
variable {w0 w w' : World} {bs : List (Nat × List Value × TypeId)} {ts : List (Nat × TS)}
theorem Sys.alike (h : Sys w0 w bs ts) {i j t u : Nat} {T U : TS} (hi : ts[i]? = some (t, T)) (hj : ts[j]? = some (u, U)) : Calls Tryz.prog 15 [.pointer (some ⟨t, 0, none⟩), .pointer (some ⟨u, 0, none⟩)].toArray w fun e w' => e = .returned (.bool (qas T U)) ∧ Sys w0 w' bs ts := by
 obtain ⟨F, h1⟩ := h.at hi
 obtain ⟨F', h2⟩ := h.at hj
 exact h.look (alike_at h1 h2 (h.fine hi).back (h.fine hj).back (h.fine hi).params (h.fine hj).params)
end
theorem qnb (f : Nat → Bool) : qfo (qeo (qao f 60) 60) = qfo f := by
  unfold qfo; refine List.map_congr_left fun i hi => ?_; have h := List.mem_range.1 hi; unfold qeo; rw [if_pos h, qfg f 60 i h]
theorem qnc (T : TS) (g o : Nat) (bk ps : Value) : (backT T).vals g o bk ps = T.vals g o bk ps := by
  unfold TS.vals; show _ ++ qfo (qeo (qao T.tabs 60) 60) ++ _ = _; rw [qnb]; rfl
theorem TermAt.back {w : World} {t : Nat} {T : TS} {F : Nat → Prop} (h : TermAt w t (backT T) F) : TermAt w t T F := by
  obtain ⟨g, o, ba, bn, bc, pa, pn, pc, a, c, FB, FP, hI⟩ := h; obtain ⟨b, d, e, bk, f, ps, pz, bz, i, j, tB, tP, k, l, m, n, p, q, lt, hi⟩ := hI; rw [qnc] at b; exact ⟨g, o, ba, bn, bc, pa, pn, pc, a, c, FB, FP, b, d, e, bk, f, ps, pz, bz, i, j, tB, tP, k, l, m, n, p, q, lt, hi⟩
def oneF (P : Nat → Prop) : Nat → Nat → Prop
  | 0 => P
  | _ + 1 => fun _ => False
theorem Sys.one {w w' : World} {t : Nat} {T : TS} (hT : LT w) (h7 : gTop ≤ w.heap.size) (hc : Ch (fun _ => False) w w') (hA : TermAt w' t T (fun b => w.heap.size ≤ b ∧ b < w'.heap.size)) (hf : Fine T) : Sys w w' [] [(t, T)] := by
  refine ⟨hc, qz hc hT (fun _ h => h.elim), h7, fun i x e => by simp at e, fun i x e => by simp at e, fun i j x y e => by simp at e, oneF fun b => w.heap.size ≤ b ∧ b < w'.heap.size, fun i x e => ?_, fun i j a b hb c => ?_, fun i b hb => ?_, fun i j x e => by simp at e⟩
  · cases i with
    | zero => obtain rfl := (zi e).symm; exact ⟨hA, hf⟩
    | succ i => simp at e
  · cases i with
    | zero => cases j with
      | zero => exact a rfl
      | succ j => exact c
    | succ i => exact hb
  · cases i with
    | zero => exact hb
    | succ i => exact hb.elim
theorem Sys.join {w0 w1 w2 : World} {bs : List (Nat × List Value × TypeId)} {ts ts' : List (Nat × TS)} (h : Sys w0 w1 bs ts) (h' : Sys w1 w2 [] ts') : Sys w0 w2 bs (ts ++ ts') := by
  obtain ⟨F, f, g, d, k⟩ := h.tm; obtain ⟨F', l, m, c, o⟩ := h'.tm; have hs := h.same h'.ch; have hz := h'.ch.size; have p := h.ch.size; refine ⟨hs.ch, h'.lt, h.top, hs.blk, hs.lo, hs.df, fun i => if i < ts.length then F i else F' (i - ts.length), fun i x e => ?_, fun i j n b hb a => ?_, fun i b hb => ?_, fun i j x e hb => ?_⟩
  · rcases Nat.lt_or_ge i ts.length with hi | hi
    · rw [List.getElem?_append_left hi] at e
      dsimp only; rw [if_pos hi]; exact ⟨(f i x e).1.ch h'.ch (fun _ _ h => h), (f i x e).2⟩
    · rw [List.getElem?_append_right hi] at e
      dsimp only; rw [if_neg (by omega)]; exact l _ x e
  · dsimp only at hb a
    by_cases hi : i < ts.length
    · rw [if_pos hi] at hb
      have q := (d i b hb).2; by_cases hj : j < ts.length
      · rw [if_pos hj] at a; exact g i j n b hb a
      · rw [if_neg hj] at a; have := (c _ b a).1; omega
    · rw [if_neg hi] at hb
      by_cases hj : j < ts.length
      · rw [if_pos hj] at a; have := (c _ b hb).1; have := (d j b a).2; omega
      · rw [if_neg hj] at a; exact m _ _ (by omega) b hb a
  · dsimp only at hb
    by_cases hi : i < ts.length
    · rw [if_pos hi] at hb; have := d i b hb; omega
    · rw [if_neg hi] at hb; have := c _ b hb; omega
  · dsimp only at hb
    by_cases hj : j < ts.length
    · rw [if_pos hj] at hb; exact k i j x e hb
    · rw [if_neg hj] at hb; have := (c _ _ hb).1; have := (h.blk i x e).lt; omega
structure OkS (T : TS) : Prop where
  ok : ∃ W H, Okt true W H T
  pr : PRight T.parser
  fine : Fine T
theorem OkS.start (p1 p2 : Int) : OkS (qa7 zeroT p1 p2) := ⟨⟨_, _, qjB zeroT p1 p2 (by decide)⟩, qdJ (.inl rfl), qfR p1 p2⟩
theorem OkS.doN {T : TS} (h : OkS T) (l : List Stp) : ∀ k, OkS (doN T l k)
  | 0 => h
  | k + 1 => by
    obtain ⟨⟨W, H, h1⟩, h2, h3⟩ := OkS.doN h l k
    exact ⟨ok_do h1 h3.2 _, pr_do h2 h3.2 _, qmf h3 _⟩
theorem OkS.dec {T : TS} (h : OkS T) : DecOk T := by
  obtain ⟨⟨W, H, a⟩, b, c⟩ := h; exact decOk_of a b c.2
set_option maxHeartbeats 4000000 in
theorem qiW (b1 b2 c1 c2 n1 n2 : Nat) (l m : List Int) (w : World) (h1 : Rd w (some ⟨b1, 0, none⟩) (u8s l)) (h2 : Rd w (some ⟨b2, 0, none⟩) (u8s m)) (hl1 : l.length = n1) (hl2 : m.length = n2) (hl : n1 ≤ 1000000) : Calls Tryz.prog 42 [.slice (some ⟨b1, 0, none⟩) n1 c1, .slice (some ⟨b2, 0, none⟩) n2 c2].toArray w fun e w' => e = .returned (.bool (qek l m)) ∧ Ch (fun _ => False) w w' := by
 refine yA Tryz.func42 rfl <| yx 1 <| ys <| yx 5 <| yc (rI ((n1 : Nat) : Int) ((n2 : Nat) : Int)) (fun g => ?_) fun g => ?_
 ·refine yx 1 <| qd (rS (yR1 (.bool false) ?_)); refine ⟨?_, Up.ch (zm w)⟩; rw [qeT (fun e => g (by rw [← hl1, ← hl2, e]))]
 refine yk <| ys <| yx 3 <| q8 <| qN [0, 1, 12, 13] (f' := [(0, .slice (some ⟨b1, 0, none⟩) n1 c1), (1, .slice (some ⟨b2, 0, none⟩) n2 c2), (12, iX ((n1 : Nat) : Int)), (13, iX 0)]) <| qw (σ := Nat) (fun k => [(0, .slice (some ⟨b1, 0, none⟩) n1 c1), (1, .slice (some ⟨b2, 0, none⟩) n2 c2), (12, iX ((n1 : Nat) : Int)), (13, iX ((k : Nat) : Int))]) (fun k u => k ≤ n1 ∧ l.take k = m.take k ∧ Ch (fun _ => False) w u) (fun k => n1 - k) 0 rfl ?_ ?_
 ·exact ⟨Nat.zero_le _, rfl, Ch.refl _ _⟩
 intro k B j C n; obtain ⟨hk, d, b⟩ := j; have h := zu (zm w) b iZ; have p := Ch.rd b h1 id; have q := Ch.rd b h2 id; refine yx 1 <| ys <| yc (rL ((k : Nat) : Int) ((n1 : Nat) : Int)) (fun r => ?_) fun r => ?_
 ·refine yk <| ys <| q8 <| yx 2 <| ys <| yD [] fun D E c => ?_; have s := zu h c iZ; have t := zt b c eZ; have v := Ch.rd c p id; have x := Ch.rd c q id; refine yd (uL 0 9) [] (.i ((k : Nat) : Int) (n1) (.l (o := (0 + (((k : Nat) : Int)).toNat * 1)) (qgZ v (k := k) (by omega)) (.i ((k : Nat) : Int) (n2) (.l (o := (0 + (((k : Nat) : Int)).toNat * 1)) (qgZ x (k := k) (by omega)) .z)))) <| yDe (nS ?_); refine yc (rI (l.getD k 0) (m.getD k 0)) (fun f => ?_) fun f => ?_
  ·refine yx 1 <| qd (rB (rS (qy (rB (rS (yR1 (.bool false) ?_)))))); refine ⟨?_, Up.ch s⟩; rw [qeT (qkw (k := k) (by omega) (by omega) (fun e => f (by rw [qcG (by omega), qcG (by omega)]; exact e)))]
  refine qp (nB (nS ?_)); refine q7 <| yp 2 [] (.q6 (((k : Nat) : Int) + 1) .z) <| yE (fun a ha => n (k + 1) _ ⟨by omega, qcc d (by omega) (by omega) (by rw [qcG (by omega), qcG (by omega)] at f; omega), t⟩ (by show n1 - (k + 1) < n1 - k; omega) a (ha.kp [0, 1, 12, 13]))
 have y : k = n1 := by omega
 refine qk (eS (qf (qe (nS ?_)))); refine yx 1 <| qd (yR1 (.bool true) ?_); refine ⟨?_, Up.ch h⟩; have A : m.length = l.length := by omega
 rw [qgL (by rw [y, ← hl1, List.take_length, ← A, List.take_length] at d; exact d)]
set_option maxHeartbeats 4000000 in
theorem same_any {w : World} {a b : Nat} {T U : TS} {F G : Nat → Prop} (ha : TermAt w a T F) (hb : TermAt w b U G) (heT : EncOk T) (heU : EncOk U) : Calls Tryz.prog 16 [pX a, pX b].toArray w fun e w' => e = .returned (.bool (qek (qiL T) (qiL U))) ∧ Ch (fun _ => False) w w' := by
 refine yA Tryz.func16 rfl <| yx 1 <| ysr <| yq 1 <| yo (yC (qe9 (TermAt.ch ha (zr w) iZ) heT) ?_); rintro _ d ⟨z, j, o, rfl, f, p, A, q⟩; refine ⟨_, rfl, ?_⟩; have k : Ch (fun _ => False) w d := zt (zr w) q iZ; have B := qn6 T; have r : (qiL T).length = j := qff f; obtain ⟨s, rfl⟩ := qcf f (by omega); refine yq 3 <| yo (yC (qe9 (TermAt.ch hb k iZ) heU) ?_); rintro _ c ⟨C, l, t, rfl, g, D, E, m⟩; refine ⟨_, rfl, ?_⟩; have u : Ch (fun _ => False) w c := zt k m iZ; have n : Ch (fun _ => False) d c := zt (zr d) m iZ; have H := qn6 U; have v : (qiL U).length = l := qff g; obtain ⟨x, rfl⟩ := qcf g (by omega); refine yo (yQ (qiW s x o t j l (qiL T) (qiL U) _ (Ch.rd n (Own.rd f) id) (Ch.rd (zr c) (Own.rd g) id) r v p) fun h i => ?_); have y : Ch (fun _ => False) w h := zt u i iZ; have I : Ch (fun _ => False) d h := zt n i iZ; have J : Ch (fun _ => False) c h := zt (zr c) i iZ; refine yz 6 <| qd (yR1 (.bool (qek (qiL T) (qiL U))) ?_); exact ⟨rfl, y⟩
section
variable {w0 w : World} {bs : List (Nat × List Value × TypeId)} {ts : List (Nat × TS)}
theorem Sys.alikeT (h : Sys w0 w bs ts) {i j t u : Nat} {T : TS} (hi : ts[i]? = some (t, T)) (hj : ts[j]? = some (u, T)) : Calls Tryz.prog 15 [pX t, pX u].toArray w fun e w' => e = .returned (.bool true) ∧ Sys w0 w' bs ts := by
 have := h.alike hi hj; rwa [qiB] at this
theorem Sys.sameT (h : Sys w0 w bs ts) {i j t u : Nat} {T : TS} (hi : ts[i]? = some (t, T)) (hj : ts[j]? = some (u, T)) (he : EncOk T) : Calls Tryz.prog 16 [pX t, pX u].toArray w fun e w' => e = .returned (.bool true) ∧ Sys w0 w' bs ts := by
 obtain ⟨F, a⟩ := h.at hi; obtain ⟨G, b⟩ := h.at hj; have := h.look (same_any a b he he); rwa [qgL rfl] at this
end
set_option maxHeartbeats 4000000 in
theorem qih {p : Nat} {G : Gr} {F : Nat → Prop} (w : World) (hG0 : GridAt w p G F) : Calls Tryz.prog 45 [pX p].toArray w fun e w' =>
 ∃ g F', e = .returned (pX g) ∧ GridAt w' g G F' ∧ (∀ b, F' b → w.heap.size ≤ b) ∧ Ch (fun _ => False) w w' := by
 obtain ⟨r, rc, rows, hG⟩ := hG0; have h7 := qlH ⟨r, rc, rows, hG⟩; have aK := hG.len; have aL := hG.ok.2.1; have aM := hG.ok.1; refine yA Tryz.func45 rfl <| yx 1 <| ys <| yD [9] fun aN aO a8 => ?_; have D := zu (zm w) a8 iZ; refine yd (uL 0 9) [] (.l (qg (Up.ch D) (hG.head.c 0) id) (.l (qg (Up.ch D) (hG.head.c 1) id) .z)) <| yK 9 (yN [iX G.w, iX G.h, nX] 59 fun s d a9 aP M aa => ?_); have aQ := zn a9 D; have E := zu D aa iZ; refine q9 <| yd [10] [] .z <| yDe (nS ?_); refine ys <| ysr <| yp 6 [] (.l (qg (Up.ch E) (hG.head.c 2) id) .z) <| ye <| q8 <| qN [3, 19, 20, 21] (f' := [(3, pX d), (19, .slice (some ⟨r, 0, none⟩) rows.length rc), (20, iX ((rows.length : Nat) : Int)), (21, iX 0)]) <| qw (σ := Nat × Option Nat × Nat) (fun ⟨k, o, oc⟩ => [(3, pX d), (19, .slice (some ⟨r, 0, none⟩) rows.length rc), (20, iX ((rows.length : Nat) : Int)), (21, iX ((k : Nat) : Int))]) (fun ⟨k, o, oc⟩ u => k ≤ rows.length ∧ Ch (· = d) s u ∧ ∃ t, Blk u d [iX G.w, iX G.h, .slice (o.map at0) k oc] qdS ∧ NewRows s u o k oc t G.w ∧ t.map Row.l = (rows.map Row.l).take k) (fun ⟨k, o, oc⟩ => rows.length - k) (0, none, 0) rfl ?_ ?_
 ·exact ⟨Nat.zero_le _, Ch.refl _ _, [], M, NewRows.nil _, rfl⟩
 intro p A ab aR ac; obtain ⟨k, o, oc⟩ := p; obtain ⟨hk, H, t, hB, hN, T⟩ := ab; have U := zu E H (fun i hi (h : i = d) => by omega); have aS : w.heap.size ≤ s.heap.size := zs E; have ad : s.heap.size ≤ A.heap.size := zs H; have ae : d < s.heap.size := M.lt; refine yx 1 <| ys <| yc (rL ((k : Nat) : Int) ((rows.length : Nat) : Int)) (fun af => ?_) fun af => ?_
 ·obtain ⟨q, hq, I⟩ := qfe (rows := rows) (k := k) (by omega); have V := (hG.line q I).2; have ag := hG.ok.2.2.2 _ (hG.lines ▸ List.mem_map_of_mem I); refine yk <| ys <| q8 <| ysr <| yp 3 [] (.i ((k : Nat) : Int) (rows.length) (.l (qf9 (Ch.rd (Up.ch U) hG.body.rd id) hq) .z)) <| ye <| yDC [8, 11] fun aT aU B => ?_; have N := zu U B iZ; have W := zt H B eZ; have X := zt (Ch.refl (fun j => j = d ∨ o = some j) A) B eZ; have O := hB.ch B id; have ah := hN.out.own.ch B iZ; refine ydC (uL 0 6) [] (fun u hu => (.l (qg hu (O.c 2) id) .z)) <| yH 6 (yC (qdl q.b q.n q.cap q.l _ ((hG.line q I).1.ch (Up.ch N) id).rd (Nat.lt_of_lt_of_le (hG.line q I).1.lt (zs N)) V (by omega)) ?_); rintro _ aV ⟨m, C, rfl, ai, Y, v⟩; refine ⟨_, rfl, ?_⟩; have aj : A.heap.size ≤ m := Nat.le_trans (zs X) Y; have aW : s.heap.size ≤ m := Nat.le_trans (zs W) Y; have ak : Df d m := (show ¬ d = m by have := O.lt; omega)
  have al := zu N v iZ; have Z := zt W v eZ; have a0 := zt X v eZ; have am := O.ch v id; have an := ah.ch v iZ; refine qU v <| yH 7 (yB [.slice (some ⟨m, 0, none⟩) q.n C] 67 1 fun aX P Q aY ao y => ?_); have aZ := zn Q al; have b0 : s.heap.size ≤ P := by rw [Q]; exact zs Z
  have b1 : A.heap.size ≤ P := by rw [Q]; exact zs a0
  have ap := zt Z y eZ; have a1 := zt a0 y eZ; have a2 := am.ch y id; have a3 := an.ch y iZ; have R := ai.ch y id; refine qU y ?_; refine yK 8 (qaf 67 1 24 o k oc (t.map Row.val) (some ⟨P, 0, none⟩) 1 1 [Row.val (Row.mk m q.n C q.l)] (some 33) (k + 1) rfl ((t ++ [(Row.mk m q.n C q.l)]).map Row.val) (by rw [List.map_append]; rfl) (by kernel_rfl) a3 (Rd.all ao) rfl rfl (fun h => by cases h) (by constructor <;> first | omega | (simp only [maxLen]; omega)) ?_); intro b2 aq a4 ar S au J; obtain ⟨K, rfl⟩ : ∃ b, aq = some b := au (by omega); have a5 : ¬ o = some d := fun e => by have := hN.lo _ e; have := M.lt; omega
  have a6 : ¬ o = some m := qam a3 R; have av : Df d K := qaE S (fun e => a5 e) a2.lt; have b3 : Df m K := qaE S (fun e => a6 e) R.lt; have aw := zt ap J (fun i hi h => by have := hN.lo _ h; omega); have ax := zt a1 J (fun _ _ h => .inr h); have ay := a2.ch J a5; have az := R.ch J a6; refine q9 <| yd [9, 10] [] .z <| yK 11 (yT [iX G.w, iX G.h, .slice (some ⟨K, 0, none⟩) (k + 1) a4] ay fun b4 aA L => ?_); have aB := zt aw L iZ; have aC := zt ax L (fun i _ (h : i = d) => .inl h); have aD := az.ch L (fun h => ak h.symm); have aE := ar.ch L (fun b e => by cases e; exact (fun h => av h.symm)); refine q9 <| yDe (nB (nS ?_)); refine q7 <| yp 2 [] (.q6 (((k : Nat) : Int) + 1) .z) ?_; have aF := qds (x := (Row.mk m q.n C q.l)) hN (by omega) ad aC (fun b h => h.imp (fun e => by omega) id) aD aj ag V aE (S.imp id fun ⟨b, e, h⟩ => ⟨b, e, Nat.le_trans (zs a1) h⟩); have aG : (t ++ [(Row.mk m q.n C q.l)]).map Row.l = (rows.map Row.l).take (k + 1) := by rw [List.map_append, T, qcg hq]; rfl
  refine yE (fun a ha => ac (k + 1, some K, a4) _ ⟨by omega, aB, _, aA, aF, aG⟩ (by show rows.length - (k + 1) < rows.length - k; omega) a (ha.kp [3, 19, 20, 21]))
 have aH : k = rows.length := by omega
 obtain ⟨r', rfl⟩ := hN.some (by omega); refine qk (eS (qf (qe (nS ?_)))); refine yx 2 <| qd (yR1 (pX d) ?_); have a7 := hN.grid (F := fun b => w.heap.size ≤ b ∧ b < A.heap.size) hB ae hG.ok.1 hG.ok.2.1 (by omega) ⟨by omega, by omega⟩ (fun b h => ⟨by omega, h.2⟩) (fun b h => ⟨h.2, by omega⟩); have aI : (rows.map Row.l).take k = G.lines := by rw [aH, ← List.length_map (f := Row.l), List.take_length, hG.lines]
 rw [T, aI] at a7; exact ⟨d, _, rfl, ⟨r', oc, t, a7⟩, (fun _ h => h.1), zt (Up.ch E) H (fun i hi (h : i = d) => by omega)⟩
set_option maxHeartbeats 4000000 in
theorem qiX (ad : Addr) (n cap : Nat) (l : List Int) (w : World) (hr : Rd w (some ad) (l.map (Value.int .i64))) (hn : l.length = n) (hnb : n ≤ 1000000) : Calls Tryz.prog 47 [.slice (some ad) n cap].toArray w fun e w' => ∃ o cap', e = .returned (.slice (o.map at0) n cap') ∧ Own w' tI 1 o n cap' (l.map (Value.int .i64)) ∧ (∀ b, o = some b → w.heap.size ≤ b) ∧ Ch (fun _ => False) w w' := by
 refine yA Tryz.func47 rfl <| yx 1 <| ys <| yx 2 <| yc (rY ((some ad)).isNone) (fun c => ?_) fun c => ?_
 ·exact absurd c (by simp)
 refine yk <| ysr <| yo (e_bs0 3 (some 5) (by kernel_rfl) ?_); intro x d q y r f; have z := zn q (zm w); have j := zu (zm w) f iZ; have s := hr.ch f iZ; refine yq 2 ?_; refine yo (qaf 3 1 8 (some d) 0 0 [] (some ad) n cap (l.map (Value.int .i64)) (some 7) n (Nat.zero_add _) (l.map (Value.int .i64)) rfl (by kernel_rfl) (Own.blk r rfl (Nat.zero_le _)) s (by rw [List.length_map, hn, Nat.mul_one]) (by exact qcV _) (fun h => by cases h) (by constructor <;> (first | omega | (simp only [maxLen]; omega))) ?_); intro A t k u m B a; obtain ⟨p, rfl⟩ : ∃ g, t = some g := by rcases m with h | ⟨g, h, _⟩ <;> exact ⟨_, h⟩
 replace a := qeG a; have v := zu j a (fun i hi (h : i = d) => by omega); refine yz 4 <| qd (yR1 (.slice (some ⟨p, 0, none⟩) n k) ?_); exact ⟨some p, k, rfl, u, (fun b e => by cases e; exact qhh m (by omega) (zs j)), Up.ch v⟩
set_option maxHeartbeats 4000000 in
theorem qiY (w : World) : Calls Tryz.prog 47 [nX].toArray w fun e w' => ∃ o cap', e = .returned (.slice (o.map at0) 0 cap') ∧ Own w' tI 1 o 0 cap' (([] : List Int).map (Value.int .i64)) ∧ (∀ b, o = some b → w.heap.size ≤ b) ∧ Ch (fun _ => False) w w' := by
 refine yA Tryz.func47 rfl <| yx 1 <| ys <| yx 2 <| yct <| yx 1 <| qd (rS (yR1 (nX) ?_)); exact ⟨none, 0, rfl, Own.nil _ _ _, (fun b e => by cases e), Up.ch (zm w)⟩
theorem qkX {a : Option Addr} {n cap : Nat} {l : List Int} (w : World) (hr : Rd w a (l.map (Value.int .i64))) (hn : l.length = n) (hz : a = none → cap = 0) (hnb : n ≤ 1000000) : Calls Tryz.prog 47 [.slice a n cap].toArray w fun e w' => ∃ o cap', e = .returned (.slice (o.map at0) n cap') ∧ Own w' tI 1 o n cap' (l.map (Value.int .i64)) ∧ (∀ b, o = some b → w.heap.size ≤ b) ∧ Ch (fun _ => False) w w' := by
 cases a with
 | some ad => exact qiX ad n cap l w hr hn hnb
 | none =>
  have c := hr.1 rfl; obtain rfl : l = [] := by simpa using c
  obtain rfl : 0 = n := hn; rw [hz rfl]; exact qiY w
structure BackN (wb w : World) (o : Option Nat) (n cap : Nat) (rows : List Row) : Prop where
 out : OutAt w o n cap rows (fun b => wb.heap.size ≤ b ∧ b < w.heap.size)
theorem BackN.nil (w : World) : BackN w w none 0 0 [] :=
 ⟨⟨Own.nil _ _ _, (fun x hx => by cases hx), (fun x hx => by cases hx), (fun b e => by cases e), (fun b h => by omega), (fun b h => by omega)⟩⟩
theorem BackN.lo {wb w : World} {o : Option Nat} {n cap : Nat} {rows : List Row} (h : BackN wb w o n cap rows) : ∀ b, o = some b → wb.heap.size ≤ b := fun b e => (h.out.oK b e).1
theorem qkY {wb wk w' : World} {o o' : Option Nat} {k oc oc' : Nat} {rows : List Row} {x : Row} {S : Nat → Prop} (h : BackN wb wk o k oc rows) (h7 : gTop ≤ wb.heap.size) (hs : wb.heap.size ≤ wk.heap.size)
  (hc : Ch S wk w') (hS : ∀ b, S b → b < wb.heap.size ∨ o = some b) (hl : LineAt w' x.b x.l x.cap) (hb : wk.heap.size ≤ x.b) (hn : x.l.length = x.n)
  (hown : Own w' qbr 1 o' (k + 1) oc' ((rows ++ [x]).map Row.val)) (ho' : o' = o ∨ ∃ b, o' = some b ∧ wk.heap.size ≤ b) : BackN wb w' o' (k + 1) oc' (rows ++ [x]) := by
 have hsz := hc.size
 have hlt' : ∀ b, o' = some b → b < w'.heap.size := fun b e => by subst e; exact hown.lt
 refine ⟨⟨hown, ?_, ?_, ?_, fun b h => h.2, fun b h => by omega⟩⟩
 ·intro z hz
  rcases List.mem_append.1 hz with hz | hz
  ·have hk := h.out.inK z hz
   refine ⟨(h.out.line z hz).1.ch hc fun hs' => ?_, (h.out.line z hz).2⟩
   rcases hS _ hs' with h1 | h1
   ·omega
   ·exact qam h.out.own (h.out.line z hz).1 h1
  ·obtain rfl := List.mem_singleton.1 hz
   exact ⟨hl, hn⟩
 ·intro z hz
  rcases List.mem_append.1 hz with hz | hz
  ·have := h.out.inK z hz; omega
  ·obtain rfl := List.mem_singleton.1 hz
   exact ⟨by omega, hl.lt⟩
 ·intro b e
  have := hlt' b e
  rcases ho' with h' | ⟨b', h', h2⟩
  ·have := h.lo b (h' ▸ e); omega
  ·rw [e] at h'; obtain rfl := Option.some.inj h'; omega
theorem copy_of {w : World} {c g q m0 m1 m2 m3 m4 n3 c3 n4 c4 : Nat} {o3 o4 : Option Nat} {rows : List Row} {T : TS} {F1 F2 : Nat → Prop}
  (hb : Blk w c (T.vals g q (.slice (o3.map at0) n3 c3) (.slice (o4.map at0) n4 c4)) qV) (h1 : GridAt w g T.grid F1) (h2 : GridAt w q T.other F2) (l1 : ∀ b, F1 b → m1 ≤ b ∧ b < m2) (l2 : ∀ b, F2 b → m2 ≤ b ∧ b < m3)
  (h3 : OutAt w o3 n3 c3 rows (fun b => m3 ≤ b ∧ b < m4)) (e3 : rows.map Row.l = T.back) (h4 : Own w tI 1 o4 n4 c4 (T.parser.params.map (Value.int .i64))) (l4 : ∀ b, o4 = some b → m4 ≤ b)
  (h7 : gTop ≤ m0) (hc : m0 ≤ c ∧ c < m1) (hm : m1 ≤ m2 ∧ m2 ≤ m3 ∧ m3 ≤ m4 ∧ m4 ≤ w.heap.size) : TermAt w c T (fun b => m0 ≤ b ∧ b < w.heap.size) := by
 refine ⟨g, q, o3.map at0, n3, c3, o4.map at0, n4, c4, F1, F2, fun b => m3 ≤ b ∧ b < m4, fun b => m4 ≤ b ∧ b < w.heap.size, ?_⟩
 exact
 {blk := hb
  g1 := h1
  g2 := h2
  bk := ⟨rows, h3.lines, e3⟩
  bcap := ⟨h3.own.2.1, fun e => by
   cases o3 with
   | none => exact (h3.own.2.2.2.1 rfl).2
   | some b => cases e⟩
  ps := ⟨h4.rd, by have := h4.1; rwa [List.length_map, Nat.mul_one] at this, (fun e => by
   cases o4 with
   | none => exact (h4.2.2.2.1 rfl).2
   | some b => cases e), fun ad e => by
   cases o4 with
   | none => cases e
   | some b => cases e; exact ⟨l4 b rfl, h4.lt⟩⟩
  pz := ⟨o4, rfl⟩
  bz := by
   cases o3 with
   | none => exact .inl rfl
   | some b => exact .inr ⟨b, 0, rfl⟩
  t1 := fun h => by have := l1 _ h; omega
  t2 := fun h => by have := l2 _ h; omega
  tB := fun h => by omega
  tP := fun h => by omega
  a12 := fun b h h' => by have := l1 _ h; have := l2 _ h'; omega
  a1B := fun b h h' => by have := l1 _ h; omega
  a2B := fun b h h' => by have := l2 _ h; omega
  a1P := fun b h h' => by have := l1 _ h; omega
  a2P := fun b h h' => by have := l2 _ h; omega
  inF := ⟨⟨hc.1, hb.lt⟩, fun b h => by have := l1 _ h; omega, fun b h => by have := l2 _ h; omega, fun b h => by omega, fun b h => by omega⟩
  lt := fun b h => h.2
  hi := fun b h => by omega }
set_option maxHeartbeats 4000000 in
theorem qjR {w : World} {t : Nat} {T : TS} {F : Nat → Prop} (hA0 : TermAt w t T F) (he : EncOk T) : Calls Tryz.prog 18 [pX t].toArray w fun e w' =>
 ∃ c, e = .returned (pX c) ∧ TermAt w' c T (fun b => w.heap.size ≤ b ∧ b < w'.heap.size) ∧ Ch (fun _ => False) w w' := by
 obtain ⟨g, o, ba, bn, bc, pa, pn, pc, F1, F2, FB, FP, hI⟩ := hA0; have h7 : gTop ≤ w.heap.size := Nat.le_trans (hI.hi t hI.inF.1) (Nat.le_of_lt (hI.lt t hI.inF.1)); obtain ⟨rows, r, S⟩ := hI.bk; have bP := r.len; have bQ : bn ≤ 60 := by have h2 := he.k.1; rw [← S, List.length_map] at h2; omega
 refine yA Tryz.func18 rfl <| yx 1 <| ysr <| yp 3 [] (.a (qE (Up.ch (zm w)) (hI.blk.cs 0 108) id) .z) <| yo (yN [.pointer none, .pointer none, iX 0, iX 0, .bool false, .bool false, .bool false, .bool false, iX 0, iX 0, iX 0, iX 0, .bool false, .bool false, .bool false, .bool false, iX 0, iX 0, iX 0, iX 0, .bool false, .bool false, .bool false, .bool false, iX 0, iX 0, iX 0, iX 0, .bool false, .bool false, .bool false, .bool false, .bool false, .bool false, .bool false, .bool false, .bool false, .bool false, .bool false, .bool false, .bool false, .bool false, .bool false, .bool false, .bool false, .bool false, .bool false, .bool false, .bool false, .bool false, .bool false, .bool false, .bool false, .bool false, .bool false, .bool false, .bool false, .bool false, .bool false, .bool false, .bool false, .bool false, .bool false, .bool false, .bool false, .bool false, .bool false, .bool false, .bool false, .bool false, .bool false, .bool false, .bool false, .bool false, .bool false, .bool false, .bool false, .bool false, .bool false, .bool false, .bool false, .bool false, .bool false, .bool false, .bool false, .bool false, .bool false, .bool false, .bool false, .bool false, .bool false, .bool false, .bool false, .bool false, .bool false, .bool false, oX, nX, iX 0, uX 0, uX 0, uX 0, iX 0, oX, nX, oX, iX 0, oX] 57 fun bR d az bS aA aB => ?_); have bT := zn az (zm w); have aC := zu (zm w) aB iZ; refine yo (yT (TS.vals T g o (.slice ba bn bc) (.slice pa pn pc)) aA fun bU aD aE => ?_)
 have aF := zu aC aE (fun i hi (h : i = d) => by omega); refine ye <| ys <| yDC [9, 11, 13] fun aG bV a2 => ?_; have I := zu aF a2 iZ; have a3 := aD.ch a2 id; refine ydC [0, 1, 2, 3, 5, 6, 7, 8] [] (fun u hu => (.l (qg hu (qg (Up.ch I) (hI.blk.c 0) id) id) (.l (qg hu (qg (Up.ch I) (hI.blk.c 1) id) id) .z))) ?_; have aH := a3.lt; refine yH 4 (yC (qih _ (hI.g1.ch (Up.ch I) iZ)) ?_); rintro _ aI ⟨y, bW, rfl, a4, a5, J⟩; refine ⟨_, rfl, ?_⟩; have aJ := a4.lt; have aK := zs J; have a6 := zu I J iZ; have a7 := a3.ch J id; refine qU J ?_; have bX := a7.lt; refine yK 9 (yC (qih _ (hI.g2.ch (Up.ch a6) iZ)) ?_); rintro _ aL ⟨D, bY, rfl, a8, a9, K⟩; refine ⟨_, rfl, ?_⟩; have aM := a8.lt; have bZ := zs K; have aN := zu a6 K iZ; have aO := a7.ch K id; have aP := a4.ch K iZ; refine q9 <| yd [10] [] .z <| yK 11 (yS aO fun c0 aQ aa => ?_); have aR := zu aN aa (fun i hi (h : i = d) => by omega); have aS := zt (Ch.refl (· = d) aL) aa iZ; have aT : Blk _ d (TS.vals T y o (.slice ba bn bc) (.slice pa pn pc)) qV := Blk.to aQ (by kernel_rfl); refine q9 <| yd [12] [] .z <| yK 13 (yS aT fun c1 aU ab => ?_); have aV := zu aR ab (fun i hi (h : i = d) => by omega); have aW := zt aS ab iZ; have aX : Blk _ d (TS.vals T y D (.slice ba bn bc) (.slice pa pn pc)) qV := Blk.to aU (by kernel_rfl); refine q9 <| yDe (nS ?_); refine ysr <| yq 1 <| yo (yS aX fun s aY ac => ?_); have U := zu aV ac (fun i hi (h : i = d) => by omega); have ad := zt aW ac iZ
 have V : Blk _ d (TS.vals T y D (nX) (.slice pa pn pc)) qV := Blk.to aY (by kernel_rfl); refine ye <| ys <| ysr <| yp 6 [] (.l (qg (Up.ch U) (hI.blk.c 97) id) .z) <| ye <| q8 <| qN [0, 3, 25, 26, 27] (f' := [(0, pX t), (3, pX d), (25, .slice ba bn bc), (26, iX ((bn : Nat) : Int)), (27, iX 0)]) <| qw (σ := Nat × Option Nat × Nat) (fun ⟨k, o, oc⟩ => [(0, pX t), (3, pX d), (25, .slice ba bn bc), (26, iX ((bn : Nat) : Int)), (27, iX ((k : Nat) : Int))]) (fun ⟨k, o, oc⟩ u => k ≤ bn ∧ Ch (· = d) s u ∧ ∃ A, Blk u d (TS.vals T y D (.slice (o.map at0) k oc) (.slice pa pn pc)) qV ∧ BackN s u o k oc A ∧ A.map Row.l = (rows.map Row.l).take k) (fun ⟨k, o, oc⟩ => bn - k) (0, none, 0) rfl ?_ ?_
 ·exact ⟨Nat.zero_le _, Ch.refl _ _, [], V, BackN.nil _, rfl⟩
 intro p v aZ c2 b0; obtain ⟨k, o, oc⟩ := p; obtain ⟨hk, L, A, hB, hN, ae⟩ := aZ; have E := zu U L (fun i hi (h : i = d) => by omega); have b1 := zt ad L iZ; have c3 : w.heap.size ≤ s.heap.size := zs U; have af : s.heap.size ≤ v.heap.size := zs L; have c4 : d < s.heap.size := V.lt; have c5 := zs ad; refine yx 1 <| ys <| yc (rL ((k : Nat) : Int) ((bn : Nat) : Int)) (fun b2 => ?_) fun b2 => ?_
 ·obtain ⟨bb, bo, rfl⟩ := qmH hI.bz r (by omega); obtain ⟨q, hq, M⟩ := qfe (rows := rows) (k := k) (by have := r.len; omega); have ag := (r.line q M).2; have c6 := (he.k.2 q.l (S ▸ List.mem_map_of_mem M)).1; refine yk <| ys <| q8 <| ysr <| yp 3 [] (.i ((k : Nat) : Int) (bn) (.l (qf9 (Ch.rd (Up.ch E) r.rd id) hq) .z)) <| ye <| yDC [5, 7] fun c7 c8 G => ?_; have W := zu E G iZ; have ah := zt L G eZ; have ai := zt (Ch.refl (fun j => j = d ∨ o = some j) v) G eZ; have X := hB.ch G id; have b3 := hN.out.own.ch G iZ; refine ydC (uL 0 3) [] (fun u hu => (.l (qg hu (X.c 97) id) .z)) <| yH 3 (yC (qdl q.b q.n q.cap q.l _ ((r.line q M).1.ch (Up.ch W) id).rd (Nat.lt_of_lt_of_le (r.line q M).1.lt (zs W)) ag (by omega)) ?_); rintro _ c9 ⟨m, H, rfl, b4, aj, B⟩; refine ⟨_, rfl, ?_⟩; have b5 : v.heap.size ≤ m := Nat.le_trans (zs ai) aj; have ca : s.heap.size ≤ m := Nat.le_trans (zs ah) aj; have b6 : Df d m := (show ¬ d = m by have := X.lt; omega)
  have b7 := zu W B iZ; have ak := zt ah B eZ; have al := zt ai B eZ; have b8 := X.ch B id; have b9 := b3.ch B iZ; refine qU B <| yH 4 (yB [.slice (some ⟨m, 0, none⟩) q.n H] 67 1 fun cb Y Z cc bd C => ?_); have cd := zn Z b7; have ce : s.heap.size ≤ Y := by rw [Z]; exact zs ak
  have cf : v.heap.size ≤ Y := by rw [Z]; exact zs al
  have bf := zt ak C eZ; have am := zt al C eZ; have an := b8.ch C id; have ao := b9.ch C iZ; have a0 := b4.ch C id; refine qU C ?_; refine yK 5 (qaf 67 1 24 o k oc (A.map Row.val) (some ⟨Y, 0, none⟩) 1 1 [Row.val (Row.mk m q.n H q.l)] (some 36) (k + 1) rfl ((A ++ [(Row.mk m q.n H q.l)]).map Row.val) (by rw [List.map_append]; rfl) (by kernel_rfl) ao (Rd.all bd) rfl rfl (fun h => by cases h) (by constructor <;> first | omega | (simp only [maxLen]; omega)) ?_); intro cg bg ap bh a1 bi N; obtain ⟨O, rfl⟩ : ∃ b, bg = some b := bi (by omega); have aq : ¬ o = some d := fun e => by have := hN.lo _ e; have := V.lt; omega
  have ar : ¬ o = some m := qam ao a0; have bj : Df d O := qaE a1 (fun e => aq e) an.lt; have ci : Df m O := qaE a1 (fun e => ar e) a0.lt; have bl := zt bf N (fun i hi h => by have := hN.lo _ h; omega); have bm := zt am N (fun _ _ h => .inr h); have bp := an.ch N aq; have bq := a0.ch N ar; refine q9 <| yd [6] [] .z <| yK 7 (yS bp fun cj br P => ?_); have bs := zt bl P iZ; have bt := zt bm P (fun i _ (h : i = d) => .inl h); have bu := bq.ch P (fun h => b6 h.symm); have bv := bh.ch P (fun b e => by cases e; exact (fun h => bj h.symm)); have bw : Blk _ d (TS.vals T y D (.slice (some ⟨O, 0, none⟩) (k + 1) ap) (.slice pa pn pc)) qV := Blk.to br (by kernel_rfl); refine q9 <| yDe (nB (nS ?_)); refine q7 <| yp 2 [] (.q6 (((k : Nat) : Int) + 1) .z) ?_; have bx := qkY (x := (Row.mk m q.n H q.l)) hN (by omega) af bt (fun b h => h.imp (fun e => by omega) id) bu b5 ag bv (a1.imp id fun ⟨b, e, h⟩ => ⟨b, e, Nat.le_trans (zs am) h⟩); have bA : (A ++ [(Row.mk m q.n H q.l)]).map Row.l = (rows.map Row.l).take (k + 1) := by rw [List.map_append, ae, qcg hq]; rfl
  refine yE (fun a ha => b0 (k + 1, some O, ap) _ ⟨by omega, bs, _, bw, bx, bA⟩ (by show bn - (k + 1) < bn - k; omega) a (ha.kp [0, 3, 25, 26, 27]))
 have bB : k = rows.length := by have := r.len; omega
 refine qk (eS (qf (qe (nS ?_)))); refine ysr <| yp 5 [] (.l (qg (Up.ch E) (hI.blk.c 104) id) .z) ?_; have ck := hB.lt; have cl := zs (Ch.refl (· = d) v); refine yo (yC (qkX _ (hI.ps.1.ch (Up.ch E) iZ) hI.ps.2.1 hI.ps.2.2.1 (by have := he.p.n; have := hI.ps.2.1; omega)) ?_); rintro _ cm ⟨bC, bD, rfl, bE, au, Q⟩; refine ⟨_, rfl, ?_⟩; have bF := zu E Q iZ; have bG := zt b1 Q eZ; have bH := zt (Ch.refl (· = d) v) Q eZ; have bI := hB.ch Q id; refine yq 8 <| yo (yS bI fun cn bJ R => ?_); have bK := zu bF R (fun i hi (h : i = d) => by omega); have av := zt bG R iZ; have aw := zt bH R iZ; have bL : Blk _ d (TS.vals T y D (.slice (o.map at0) k oc) (.slice (bC.map at0) pn bD)) qV := Blk.to bJ (by kernel_rfl); refine ye <| yx 1 <| qd (yR1 (pX d) ?_); have hP := bE.ch R (fun b e (h : b = d) => by have := au b e; omega); have co := zs aw; have bM : (rows.map Row.l).take k = T.back := by rw [bB, ← List.length_map (f := Row.l), List.take_length, S]
 exact ⟨d, rfl, copy_of (m0 := w.heap.size) (m1 := aG.heap.size) (m2 := aI.heap.size) (m3 := s.heap.size) (m4 := v.heap.size) bL (aP.ch av (fun b hb e => by have := a5 b hb; omega)) (a8.ch av (fun b hb e => by have := a9 b hb; omega)) (fun b hb => ⟨a5 b hb, aJ b hb⟩) (fun b hb => ⟨a9 b hb, by have := aM b hb; omega⟩) (hN.out.ch aw (fun b hb e => by omega)) (ae.trans bM) hP (fun b e => by have := au b e; omega) h7 ⟨by omega, aH⟩ ⟨aK, by omega, af, by omega⟩, Up.ch bK⟩
set_option maxHeartbeats 4000000 in
theorem qiZ (p1 p2 : Int) (a : Option Addr) (n sc : Nat) (st : List Stp) (sb2 so2 sc2 : Nat) (st2 : List Stp) (w : World) (hT : LT w) (h7 : gTop ≤ w.heap.size) (ha : n = 0 ∨ ∃ b off, a = some ⟨b, off, none⟩) (hn : st.length = n) (hst : Rd w a (flatS st)) (hst2 : Rd w (some ⟨sb2, so2, none⟩) (flatS st2)) : Calls Tryz.prog 8 [.agg #[iX p1, iX p2], .slice a n sc, .slice (some ⟨sb2, so2, none⟩) st2.length sc2].toArray w fun e w' => e = .returned (.bool true) ∧ Ch (fun _ => False) w w' := by
 have hS := Sys.start hT h7; refine yA Tryz.func8 rfl <| ysr <| yo (yN [iX p1, iX p2] 22 fun a1 g a2 aF a3 a4 => ?_); refine yz 2 <| ys <| ysr ?_; have A : Sys w a1 [(g, [iX p1, iX p2], 22)] [] := hS.box a4 a3 (Nat.le_of_eq a2.symm); refine yo (yQ (qid _ A.lt (Nat.le_trans A.top A.ch.size)) fun aG a5 => ?_); have y := A.same a5; refine yz 2 <| ycf <| yk <| ys <| ysr <| yq 1 <| yo (yQ (qfh a n sc st _ y.lt (Nat.le_trans y.top y.ch.size) ha hn (hst.ch y.ch iZ)) fun aH a6 => ?_); have x := y.same a6; refine yq 4 <| yw [19] (rN (rY (qdE st))) (fun N => ?_) fun N => ?_
 ·refine yz 8 <| yct <| yx 1 <| qd (rS (yR1 (.bool true) ?_)); exact ⟨rfl, x.ch⟩
 have O := shortB_iff.1 N; refine yq 5 <| yo (yQ (qg4 sb2 so2 sc2 st2 _ x.lt (Nat.le_trans x.top x.ch.size) (Ch.rd x.ch hst2 id)) fun aI a7 => ?_); have P := x.same a7; refine yz 8 <| yc (rN (rY (qdE st2))) (fun Q => ?_) fun Q => ?_
 ·refine yx 1 <| qd (rS (yR1 (.bool true) ?_)); exact ⟨rfl, P.ch⟩
 have R := shortB_iff.1 Q; refine yk <| ys <| yDC [5] fun a8 aJ a9 => ?_; have p := P.same a9; refine ydC [0, 1, 3, 4] [] (fun u hu => (.a (qE hu ((p.blk 0 (g, [iX p1, iX p2], 22) rfl).cs 0 2) id) (.a (qE hu ((p.blk 0 (g, [iX p1, iX p2], 22) rfl).cs 0 2) id) .z))) <| yH 2 (yC (qeF p1 p2 a n sc st _ p.lt (Nat.le_trans p.top p.ch.size) ha hn (hst.ch p.ch iZ) ⟨by omega, O.2⟩) ?_); rintro _ B ⟨f, rfl, C⟩; refine ⟨_, rfl, ?_⟩; obtain ⟨c, D⟩ : ∃ T, T = doN (qa7 zeroT (p1) (p2)) st st.length := ⟨_, rfl⟩
 have S : OkS c := D ▸ (OkS.start p1 p2).doN st _; have aa : Ch (fun _ => False) a8 B := C.ch; rw [← D] at C; have q := p.join C; replace q : Sys w B [(g, [iX p1, iX p2], 22)] [(f, c)] := q; refine qU aa <| yK 5 (yC (qeF p1 p2 a n sc st _ q.lt (Nat.le_trans q.top q.ch.size) ha hn (hst.ch q.ch iZ) ⟨by omega, O.2⟩) ?_); rintro _ U ⟨l, rfl, E⟩; refine ⟨_, rfl, ?_⟩; have aK : Ch (fun _ => False) B U := E.ch; rw [← D] at E; have o := q.join E; replace o : Sys w U [(g, [iX p1, iX p2], 22)] [(f, c), (l, c)] := o; refine q9 <| yd [6, 7] [] .z <| yDe (nS ?_); refine ysr <| yq 1 ?_; obtain ⟨aL, ab⟩ := o.at (i := 0) rfl; refine yo (yC (qjR ab S.dec.enc) ?_); rintro _ ac ⟨u44, rfl, ad, ae⟩; refine ⟨_, rfl, ?_⟩; have F := o.join (Sys.one o.lt (Nat.le_trans o.top o.ch.size) ae ad (o.fine (i := 0) rfl)); replace F : Sys w ac [(g, [iX p1, iX p2], 22)] [(f, c), (l, c), (u44, c)] := F; refine yz 3 <| ys <| ysr <| yq 5 <| yo (yQ (F.alikeT (i := 2) (j := 0) rfl rfl) fun af G => ?_); replace G : Sys w af [(g, [iX p1, iX p2], 22)] [(f, c), (l, c), (u44, c)] := G; refine yz 8 <| ycf <| yk <| ys <| yx 3 <| q8 <| qN [2, 7, 8, 9, 40, 41, 42] (f' := [(2, .slice (some ⟨sb2, so2, none⟩) st2.length sc2), (7, pX f), (8, pX l), (9, pX u44), (40, .slice (some ⟨sb2, so2, none⟩) st2.length sc2), (41, iX ((st2.length : Nat) : Int)), (42, iX 0)]) <| qw (σ := Nat) (fun k => [(2, .slice (some ⟨sb2, so2, none⟩) st2.length sc2), (7, pX f), (8, pX l), (9, pX u44), (40, .slice (some ⟨sb2, so2, none⟩) st2.length sc2), (41, iX ((st2.length : Nat) : Int)), (42, iX ((k : Nat) : Int))]) (fun k wv => (k : Int) ≤ ((st2.length : Nat) : Int) ∧ Sys w wv [(g, [iX p1, iX p2], 22)] [(f, c), (l, c), (u44, (doN c st2 k))]) (fun k => (((st2.length : Nat) : Int)).toNat - k) 0 rfl ?_ ?_
 ·exact ⟨by omega, G⟩
 intro k ag ah aM ai; obtain ⟨aN, r⟩ := ah; replace r : Sys w ag [(g, [iX p1, iX p2], 22)] [(f, c), (l, c), (u44, (doN c st2 k))] := r; refine yx 1 <| ys <| yc (rL ((k : Nat) : Int) ((st2.length : Nat) : Int)) (fun H => ?_) fun H => ?_
 ·have aO := H; refine yk <| ys <| q8 <| ysr <| yp 2 [] (.i ((k : Nat) : Int) (st2.length) (.m (qjv (k := k) (Ch.rd r.ch hst2 id) (by omega)) (.m (s_w (k := k) (Ch.rd r.ch hst2 id) (by omega)) (.m (s_h (k := k) (Ch.rd r.ch hst2 id) (by omega)) (.e .z))))) <| yo (yN [oX, iX 0, iX 0] 37 fun aj s ak aP al am => ?_); have V : Sys w aj [(g, [iX p1, iX p2], 22), (s, [oX, iX 0, iX 0], 37)] [(f, c), (l, c), (u44, (doN c st2 k))] := r.box am al (Nat.le_of_eq ak.symm); refine yo (yS (V.blk 1 (s, [oX, iX 0, iX 0], 37) rfl) fun an ao ap => ?_); have W : Sys w an [(g, [iX p1, iX p2], 22), (s, [.string (gs st2 k).text, iX (gs st2 k).w, iX (gs st2 k).h], 37)] [(f, c), (l, c), (u44, (doN c st2 k))] := V.set 1 rfl ap (Blk.to ao (by kernel_rfl)); refine ye <| q7 <| yp 2 [] (.a ((W.blk 1 (s, [.string (gs st2 k).text, iX (gs st2 k).w, iX (gs st2 k).h], 37) rfl).cs 0 3) .z) <| yo (yQ (W.do (i := 2) rfl (gs st2 k) (by have := R.2 k (by omega); omega)) fun X I => ?_); replace I : Sys w X [(g, [iX p1, iX p2], 22), (s, [.string (gs st2 k).text, iX (gs st2 k).w, iX (gs st2 k).h], 37)] [(f, c), (l, c), (u44, (doT (doN c st2 k) (gs st2 k)))] := I; refine yE (nB (nS ?_)); refine q7 <| yp 2 [] (.q6 (((k : Nat) : Int) + 1) .z) <| yE (fun a ha => ai (k + 1) _ ⟨by omega, (Sys.pre (bs' := [(s, [.string (gs st2 k).text, iX (gs st2 k).w, iX (gs st2 k).h], 37)]) (show Sys w X (_ ++ [(s, [.string (gs st2 k).text, iX (gs st2 k).w, iX (gs st2 k).h], 37)]) _ from I))⟩ (by omega) a (ha.kp [2, 7, 8, 9, 40, 41, 42]))
 have aQ := H; refine qk (eS (qf (qe (nS ?_)))); refine ys <| ysr <| yq 2 <| yo (yQ (r.alikeT (i := 0) (j := 1) rfl rfl) fun aq J => ?_); replace J : Sys w aq [(g, [iX p1, iX p2], 22)] [(f, c), (l, c), (u44, (doN c st2 k))] := J; refine yz 4 <| ycf <| yk <| ys <| yx 3 <| q8 <| qN [7, 9, 54, 55, 56] (f' := [(7, pX f), (9, pX u44), (54, .slice (some ⟨sb2, so2, none⟩) st2.length sc2), (55, iX ((st2.length : Nat) : Int)), (56, iX 0)]) <| qw (σ := Nat) (fun d => [(7, pX f), (9, pX u44), (54, .slice (some ⟨sb2, so2, none⟩) st2.length sc2), (55, iX ((st2.length : Nat) : Int)), (56, iX ((d : Nat) : Int))]) (fun d ar => (d : Int) ≤ ((st2.length : Nat) : Int) ∧ Sys w ar [(g, [iX p1, iX p2], 22)] [(f, (doN c st2 d)), (l, c), (u44, (doN c st2 k))]) (fun d => (((st2.length : Nat) : Int)).toNat - d) 0 rfl ?_ ?_
 ·exact ⟨by omega, J⟩
 intro d au av aR aw; obtain ⟨aS, t⟩ := av; replace t : Sys w au [(g, [iX p1, iX p2], 22)] [(f, (doN c st2 d)), (l, c), (u44, (doN c st2 k))] := t; refine yx 1 <| ys <| yc (rL ((d : Nat) : Int) ((st2.length : Nat) : Int)) (fun K => ?_) fun K => ?_
 ·have aT := K; refine yk <| ys <| q8 <| ysr <| yp 2 [] (.i ((d : Nat) : Int) (st2.length) (.m (qjv (k := d) (Ch.rd t.ch hst2 id) (by omega)) (.m (s_w (k := d) (Ch.rd t.ch hst2 id) (by omega)) (.m (s_h (k := d) (Ch.rd t.ch hst2 id) (by omega)) (.e .z))))) <| yo (yN [oX, iX 0, iX 0] 37 fun ax v ay aU az aA => ?_); have Y : Sys w ax [(g, [iX p1, iX p2], 22), (v, [oX, iX 0, iX 0], 37)] [(f, (doN c st2 d)), (l, c), (u44, (doN c st2 k))] := t.box aA az (Nat.le_of_eq ay.symm); refine yo (yS (Y.blk 1 (v, [oX, iX 0, iX 0], 37) rfl) fun aB aC aD => ?_); have Z : Sys w aB [(g, [iX p1, iX p2], 22), (v, [.string (gs st2 d).text, iX (gs st2 d).w, iX (gs st2 d).h], 37)] [(f, (doN c st2 d)), (l, c), (u44, (doN c st2 k))] := Y.set 1 rfl aD (Blk.to aC (by kernel_rfl)); refine ye <| q7 <| yp 2 [] (.a ((Z.blk 1 (v, [.string (gs st2 d).text, iX (gs st2 d).w, iX (gs st2 d).h], 37) rfl).cs 0 3) .z) <| yo (yQ (Z.do (i := 0) rfl (gs st2 d) (by have := R.2 d (by omega); omega)) fun a0 L => ?_); replace L : Sys w a0 [(g, [iX p1, iX p2], 22), (v, [.string (gs st2 d).text, iX (gs st2 d).w, iX (gs st2 d).h], 37)] [(f, (doT (doN c st2 d) (gs st2 d))), (l, c), (u44, (doN c st2 k))] := L; refine yE (nB (nS ?_)); refine q7 <| yp 2 [] (.q6 (((d : Nat) : Int) + 1) .z) <| yE (fun a ha => aw (d + 1) _ ⟨by omega, (Sys.pre (bs' := [(v, [.string (gs st2 d).text, iX (gs st2 d).w, iX (gs st2 d).h], 37)]) (show Sys w a0 (_ ++ [(v, [.string (gs st2 d).text, iX (gs st2 d).w, iX (gs st2 d).h], 37)]) _ from L))⟩ (by omega) a (ha.kp [7, 9, 54, 55, 56]))
 have aV := K; obtain rfl : k = d := by omega
 refine qk (eS (qf (qe (nS ?_)))); refine ysr <| yq 2 <| yo (yQ (t.sameT (i := 2) (j := 0) rfl rfl (S.doN st2 k).dec.enc) fun aE M => ?_); replace M : Sys w aE [(g, [iX p1, iX p2], 22)] [(f, (doN c st2 k)), (l, c), (u44, (doN c st2 k))] := M; refine yz 4 <| qd (yR1 (.bool true) ?_); exact ⟨rfl, M.ch⟩
set_option maxHeartbeats 4000000 in
theorem qkZ (p1 p2 : Int) (a : Option Addr) (n sc : Nat) (st : List Stp) (a2 : Option Addr) (sc2 : Nat) (st2 : List Stp) (w : World) (hT : LT w) (h7 : gTop ≤ w.heap.size) (ha : n = 0 ∨ ∃ b off, a = some ⟨b, off, none⟩) (hn : st.length = n) (hst : Rd w a (flatS st)) (ha2 : 0 = 0 ∨ ∃ b off, a2 = some ⟨b, off, none⟩) (hn2 : st2.length = 0) (hst2 : Rd w a2 (flatS st2)) : Calls Tryz.prog 8 [.agg #[iX p1, iX p2], .slice a n sc, .slice a2 0 sc2].toArray w fun e w' => e = .returned (.bool true) ∧ Ch (fun _ => False) w w' := by
 have hS := Sys.start hT h7; refine yA Tryz.func8 rfl <| ysr <| yo (yN [iX p1, iX p2] 22 fun H d I Z J K => ?_); refine yz 2 <| ys <| ysr ?_; have p : Sys w H [(d, [iX p1, iX p2], 22)] [] := hS.box K J (Nat.le_of_eq I.symm); refine yo (yQ (qid _ p.lt (Nat.le_trans p.top p.ch.size)) fun a0 L => ?_); have m := p.same L; refine yz 2 <| ycf <| yk <| ys <| ysr <| yq 1 <| yo (yQ (qfh a n sc st _ m.lt (Nat.le_trans m.top m.ch.size) ha hn (hst.ch m.ch iZ)) fun a1 M => ?_); have k := m.same M; refine yq 4 <| yw [19] (rN (rY (qdE st))) (fun B => ?_) fun B => ?_
 ·refine yz 8 <| yct <| yx 1 <| qd (rS (yR1 (.bool true) ?_)); exact ⟨rfl, k.ch⟩
 have C := shortB_iff.1 B; refine yq 5 <| yo (yQ (qfh a2 0 sc2 st2 _ k.lt (Nat.le_trans k.top k.ch.size) ha2 hn2 (hst2.ch k.ch iZ)) fun a3 N => ?_); have D := k.same N; refine yz 8 <| yc (rN (rY (qdE st2))) (fun E => ?_) fun E => ?_
 ·refine yx 1 <| qd (rS (yR1 (.bool true) ?_)); exact ⟨rfl, D.ch⟩
 have a4 := shortB_iff.1 E; refine yk <| ys <| yDC [5] fun O a5 P => ?_; have g := D.same P; refine ydC [0, 1, 3, 4] [] (fun u hu => (.a (qE hu ((g.blk 0 (d, [iX p1, iX p2], 22) rfl).cs 0 2) id) (.a (qE hu ((g.blk 0 (d, [iX p1, iX p2], 22) rfl).cs 0 2) id) .z))) <| yH 2 (yC (qeF p1 p2 a n sc st _ g.lt (Nat.le_trans g.top g.ch.size) ha hn (hst.ch g.ch iZ) ⟨by omega, C.2⟩) ?_); rintro _ q ⟨l, rfl, r⟩; refine ⟨_, rfl, ?_⟩; obtain ⟨c, s⟩ : ∃ T, T = doN (qa7 zeroT (p1) (p2)) st st.length := ⟨_, rfl⟩
 have F : OkS c := s ▸ (OkS.start p1 p2).doN st _; have Q : Ch (fun _ => False) O q := r.ch; rw [← s] at r; have h := g.join r; replace h : Sys w q [(d, [iX p1, iX p2], 22)] [(l, c)] := h; refine qU Q <| yK 5 (yC (qeF p1 p2 a n sc st _ h.lt (Nat.le_trans h.top h.ch.size) ha hn (hst.ch h.ch iZ) ⟨by omega, C.2⟩) ?_); rintro _ G ⟨o, rfl, t⟩; refine ⟨_, rfl, ?_⟩; have a6 : Ch (fun _ => False) q G := t.ch; rw [← s] at t; have f := h.join t; replace f : Sys w G [(d, [iX p1, iX p2], 22)] [(l, c), (o, c)] := f; refine q9 <| yd [6, 7] [] .z <| yDe (nS ?_); refine ysr <| yq 1 ?_; obtain ⟨a7, R⟩ := f.at (i := 0) rfl; refine yo (yC (qjR R F.dec.enc) ?_); rintro _ S ⟨u44, rfl, U, V⟩; refine ⟨_, rfl, ?_⟩; have v := f.join (Sys.one f.lt (Nat.le_trans f.top f.ch.size) V U (f.fine (i := 0) rfl)); replace v : Sys w S [(d, [iX p1, iX p2], 22)] [(l, c), (o, c), (u44, c)] := v; refine yz 3 <| ys <| ysr <| yq 5 <| yo (yQ (v.alikeT (i := 2) (j := 0) rfl rfl) fun W x => ?_); replace x : Sys w W [(d, [iX p1, iX p2], 22)] [(l, c), (o, c), (u44, c)] := x; refine yz 8 <| ycf <| yk <| ys <| yx 3 <| q8 <| yU 1 (yU1 ?_); refine yx 1 <| ys <| ycf <| qk (eS (qf (qe (nS ?_)))); refine ys <| ysr <| yq 2 <| yo (yQ (x.alikeT (i := 0) (j := 1) rfl rfl) fun X y => ?_); replace y : Sys w X [(d, [iX p1, iX p2], 22)] [(l, c), (o, c), (u44, c)] := y; refine yz 4 <| ycf <| yk <| ys <| yx 3 <| q8 <| yU 1 (yU1 ?_); refine yx 1 <| ys <| ycf <| qk (eS (qf (qe (nS ?_))))
 refine ysr <| yq 2 <| yo (yQ (y.sameT (i := 2) (j := 0) rfl rfl F.dec.enc) fun Y A => ?_); replace A : Sys w Y [(d, [iX p1, iX p2], 22)] [(l, c), (o, c), (u44, c)] := A; refine yz 4 <| qd (yR1 (.bool true) ?_); exact ⟨rfl, A.ch⟩
theorem copies_any (p1 p2 : Int) (a : Option Addr) (n sc : Nat) (st : List Stp) (a2 : Option Addr) (n2 sc2 : Nat) (st2 : List Stp) (w : World) (hT : LT w) (h7 : gTop ≤ w.heap.size) (ha : n = 0 ∨ ∃ b off, a = some ⟨b, off, none⟩) (hn : st.length = n) (hst : Rd w a (flatS st)) (ha2 : n2 = 0 ∨ ∃ b off, a2 = some ⟨b, off, none⟩) (hn2 : st2.length = n2) (hst2 : Rd w a2 (flatS st2)) : Calls Tryz.prog 8 [.agg #[iX p1, iX p2], .slice a n sc, .slice a2 n2 sc2].toArray w fun e w' => e = .returned (.bool true) ∧ Ch (fun _ => False) w w' := by
 rcases ha2 with rfl | ⟨b, off, rfl⟩
 ·exact qkZ p1 p2 a n sc st a2 sc2 st2 w hT h7 ha hn hst (.inl rfl) hn2 hst2
 subst hn2; exact qiZ p1 p2 a n sc st b off sc2 st2 w hT h7 ha hn hst hst2
end Go.Proofs.YtclnfbmmaofpjaaGreatDoor.X
namespace Go.Proofs.YtclnfbmmaofpjaaGreatDoor
open Go.ChangeShapes Go.WideShapes Go.ChangeAt Go.RowKit
theorem qj0 : ownKnob Tryz.prog.godebug = none := by kernel_rfl
abbrev ql0 : List (String × DataW Unit) := [("flipbook/glyph.wide", Rows.laid_flipbook_glyph_wide), ("flipbook/glyph.signs", Rows.laid_flipbook_glyph_signs), ("math/bits.deBruijn32tab", Rows.laid_math_bits_deBruijn32tab), ("math/bits.deBruijn64tab", Rows.laid_math_bits_deBruijn64tab), ("internal/strconv.uint64pow10", Rows.laid_internal_strconv_uint64pow10), ("unicode/utf8.acceptRanges", Rows.laid_unicode_utf8_acceptRanges), ("unicode/utf8.first", Rows.laid_unicode_utf8_first)]
theorem doorMet (os : Os) (args : Array Value) : laidMetH Tryz.prog ql0 ((World.laidAll Tryz.prog os ql0).forCall (fun _ _ => 0) ⟨#[], args, []⟩).memory := by
 rw [MakeChecks.laidMetH_plain _ _ _ (by kernel_rfl)]; exact laidMet_laidAll _ (by kernel_rfl) (by kernel_rfl)
theorem ql1 (os : Os) : (World.laidAll Tryz.prog os ql0).Shaped Tryz.prog := World.shaped_of_ZipB (by kernel_rfl) (by kernel_rfl)
theorem qbO {W : World} {g n t : Nat} {k : IntKind} {e : TypeId} (he : Tryz.prog.underlying e = some (.int k)) (ce : Tryz.prog.cellsOf e = 1) {name : String} {cs : Array Value} {fuel : Nat} {l : List Int} {q : List MemPlace} (hg : Tryz.prog.globalNamed name = some g) (hv : W.var? Tryz.prog name = some cs)
  (hd : DataW.trod (H := Unit) (fun _ => ()) Tryz.prog W 0 (fun _ => true) false fuel t cs.toList = some (.agg (l.map fun n => .lit (.int k n)), q))
  (ht : Tryz.prog.underlying t = some (.array n e)) (hl : l.length = n) : ∀ r, r < l.length → W.cell? ⟨g, r, none⟩ = some (.int k (l.getD r 0)) := by
 obtain ⟨xs, m, _, ex, _, hlx, hel⟩ := DataW.trod_array ht hd
 intro r hr
 have hE := hel r (by omega)
 rw [ce, Nat.mul_one, List.getElem?_eq_getElem (by omega)] at hE
 obtain ⟨z, e1, e2, _⟩ := DataW.trod_int he hE
 have e3 : (xs.map (·.1)) = l.map fun n => .lit (.int k n) := (DataW.agg.inj (Prod.mk.inj ex).1).symm
 have e4 : (xs.map (·.1))[r]? = (l.map fun n => (DataW.lit (.int k n) : DataW Unit))[r]? := by rw [e3]
 rw [List.getElem?_map, List.getElem?_map, List.getElem?_eq_getElem (by omega : r < xs.length), List.getElem?_eq_getElem (by omega : r < l.length), e2] at e4
 have hz : z = l.getD r 0 := by
  simp only [Option.map_some, Option.some.injEq, DataW.lit.injEq, Lit.int.injEq, true_and] at e4
  rw [e4, List.getD, List.getElem?_eq_getElem (by omega : r < l.length)]; rfl
 rw [World.var?_cell hg hv r, ← hz]
 have : cs.toList[r]? = some (.int k z) := by
  have h0 : ((cs.toList.drop r).take 1)[0]? = some (.int k z) := by rw [e1]; rfl
  simpa using h0
 simpa using this
theorem qh3 {W : World} {g n t e u : Nat} {k : IntKind} {fs : Array Field} (hs : Tryz.prog.underlying e = some (.struct fs)) (h0 : ∃ f, fs[0]? = some f ∧ f.type = u ∧ f.offset = 0) (h1 : ∃ f, fs[1]? = some f ∧ f.type = u ∧ f.offset = 1) (hz : fs.size = 2) (hu : Tryz.prog.underlying u = some (.int k)) (ce : Tryz.prog.cellsOf e = 2) (cu : Tryz.prog.cellsOf u = 1)
  {name : String} {cs : Array Value} {fuel : Nat} {l : List (Int × Int)} {q : List MemPlace} (hg : Tryz.prog.globalNamed name = some g) (hv : W.var? Tryz.prog name = some cs)
  (hd : DataW.trod (H := Unit) (fun _ => ()) Tryz.prog W 0 (fun _ => true) false fuel t cs.toList = some (.agg (l.map fun p => .agg [.lit (.int k p.1), .lit (.int k p.2)]), q))
  (ht : Tryz.prog.underlying t = some (.array n e)) (hl : l.length = n) : ∀ r p, l[r]? = some p → W.cell? ⟨g, r * 2, none⟩ = some (.int k p.1) ∧ W.cell? ⟨g, r * 2 + 1, none⟩ = some (.int k p.2) := by
 obtain ⟨xs, m, _, ex, _, hlx, hel⟩ := DataW.trod_array ht hd
 intro r p hp
 have hr : r < l.length := (List.getElem?_eq_some_iff.1 hp).1
 have hE := hel r (by omega)
 rw [ce, List.getElem?_eq_getElem (by omega)] at hE
 have e3 : (xs.map (·.1)) = l.map fun p => .agg [.lit (.int k p.1), .lit (.int k p.2)] := (DataW.agg.inj (Prod.mk.inj ex).1).symm
 have e4 : (xs.map (·.1))[r]? = (l.map fun p => (DataW.agg [.lit (.int k p.1), .lit (.int k p.2)] : DataW Unit))[r]? := by rw [e3]
 rw [List.getElem?_map, List.getElem?_map, List.getElem?_eq_getElem (by omega : r < xs.length), hp] at e4
 simp only [Option.map_some, Option.some.injEq] at e4
 obtain ⟨ys, m2, _, ey, _, hly, hfy⟩ := DataW.trod_struct hs hE
 rw [ey] at e4
 have e5 := DataW.agg.inj e4
 obtain ⟨f0, hf0, t0, o0⟩ := h0
 obtain ⟨f1, hf1, t1, o1⟩ := h1
 have k0 := hfy 0 f0 hf0
 have k1 := hfy 1 f1 hf1
 rw [t0, o0, cu, List.drop_zero, List.take_take] at k0
 rw [t1, o1, cu] at k1
 have hy : ys.length = 2 := by rw [hly, hz]
 rw [List.getElem?_eq_getElem (by omega)] at k0 k1
 obtain ⟨z0, a0, b0, _⟩ := DataW.trod_int hu k0
 obtain ⟨z1, a1, b1, _⟩ := DataW.trod_int hu k1
 have c0 : (ys.map (·.1))[0]? = some (.lit (.int k p.1)) := by rw [e5]; rfl
 have c1 : (ys.map (·.1))[1]? = some (.lit (.int k p.2)) := by rw [e5]; rfl
 rw [List.getElem?_map, List.getElem?_eq_getElem (by omega), b0] at c0
 rw [List.getElem?_map, List.getElem?_eq_getElem (by omega), b1] at c1
 simp only [Option.map_some, Option.some.injEq, DataW.lit.injEq, Lit.int.injEq, true_and] at c0 c1
 subst c0 c1
 have d0 : cs.toList[r * 2]? = some (.int k p.1) := by
  have h0 : ((cs.toList.drop (r * 2)).take (min 1 2))[0]? = some (.int k p.1) := by rw [a0]; rfl
  simpa using h0
 have d1 : cs.toList[r * 2 + 1]? = some (.int k p.2) := by
  have h0 : ((((cs.toList.drop (r * 2)).take 2).drop 1).take 1)[0]? = some (.int k p.2) := by rw [a1]; rfl
  simpa using h0
 exact ⟨by rw [World.var?_cell hg hv]; simpa using d0, by rw [World.var?_cell hg hv]; simpa using d1⟩
def firstL : List Int := (List.range 256).map X.firstN
def accL : List (Int × Int) := (List.range 16).map X.accN
theorem qh4 {c : Nat} (h : c < 256) : firstL.length = 256 ∧ firstL.getD c 0 = X.firstN c := by
 have e : firstL.length = 256 := by simp [firstL]
 refine ⟨e, ?_⟩
 rw [List.getD, firstL, List.getElem?_map, List.getElem?_range h]; rfl
theorem acc_at {i : Nat} (h : i < 16) : accL[i]? = some (X.accN i) := by
 rw [accL, List.getElem?_map, List.getElem?_range h]; rfl
set_option maxRecDepth 100000 in
theorem ql2 {W : World} (h : laidMetH Tryz.prog ql0 W) : X.LT W := by
 rw [MakeChecks.laidMetH_plain _ _ _ (by kernel_rfl)] at h
 obtain ⟨ps, ⟨g0, t0, cs0, f0, p0, q0, hg0, ht0, hv0, hd0, ⟨g1, t1, cs1, f1, p1, q1, hg1, ht1, hv1, hd1, ⟨g2, t2, cs2, f2, p2, q2, hg2, ht2, hv2, hd2, ⟨g3, t3, cs3, f3, p3, q3, hg3, ht3, hv3, hd3, ⟨g4, t4, cs4, f4, p4, q4, hg4, ht4, hv4, hd4, ⟨g5, t5, cs5, f5, p5, q5, hg5, ht5, hv5, hd5, ⟨g6, t6, cs6, f6, p6, q6, hg6, ht6, hv6, hd6, _, _⟩, _⟩, _⟩, _⟩, _⟩, _⟩, _⟩, _, _⟩ := h
 obtain rfl := Option.some.inj ((show Tryz.prog.globalNamed "flipbook/glyph.wide" = some 0 by kernel_rfl).symm.trans hg0)
 obtain rfl := Option.some.inj ((show Tryz.prog.globalNamed "flipbook/glyph.signs" = some 3 by kernel_rfl).symm.trans hg1)
 obtain rfl := Option.some.inj ((show Tryz.prog.globalNamed "internal/strconv.uint64pow10" = some 4 by kernel_rfl).symm.trans hg4)
 obtain rfl := Option.some.inj ((show Tryz.prog.globalNamed "unicode/utf8.acceptRanges" = some 2 by kernel_rfl).symm.trans hg5)
 obtain rfl := Option.some.inj ((show Tryz.prog.globalNamed "unicode/utf8.first" = some 1 by kernel_rfl).symm.trans hg6)
 obtain rfl := Option.some.inj ((show (Tryz.prog.globals[0]?).map (·.type) = some 151 by kernel_rfl).symm.trans ht0)
 obtain rfl := Option.some.inj ((show (Tryz.prog.globals[3]?).map (·.type) = some 167 by kernel_rfl).symm.trans ht1)
 obtain rfl := Option.some.inj ((show (Tryz.prog.globals[4]?).map (·.type) = some 187 by kernel_rfl).symm.trans ht4)
 obtain rfl := Option.some.inj ((show (Tryz.prog.globals[2]?).map (·.type) = some 155 by kernel_rfl).symm.trans ht5)
 obtain rfl := Option.some.inj ((show (Tryz.prog.globals[1]?).map (·.type) = some 152 by kernel_rfl).symm.trans ht6)
 have z6 : Rows.laid_unicode_utf8_first = .agg (firstL.map fun n => .lit (.int .u8 n)) := by kernel_rfl
 rw [z6] at hd6
 have z5 : (Rows.laid_unicode_utf8_acceptRanges : DataW Unit) = .agg (accL.map fun p => .agg [.lit (.int .u8 p.1), .lit (.int .u8 p.2)]) := by kernel_rfl
 rw [z5] at hd5
 refine ⟨⟨qbO (k := .i32) (e := 21) (by kernel_rfl) (by kernel_rfl) hg0 hv0 hd0 (by kernel_rfl) rfl, qbO (k := .i32) (e := 21) (by kernel_rfl) (by kernel_rfl) hg1 hv1 hd1 (by kernel_rfl) rfl⟩, ⟨fun c hc => ?_, fun i hi => ?_⟩, fun i hi => ?_⟩
 ·have := qbO (k := .u8) (e := 5) (by kernel_rfl) (by kernel_rfl) hg6 hv6 hd6 (by kernel_rfl) (qh4 hc).1 c (by rw [(qh4 hc).1]; exact hc)
  rw [(qh4 hc).2] at this; exact this
 ·exact qh3 (k := .u8) (e := 154) (u := 5) Tryz.underlying154 ⟨_, rfl, rfl, rfl⟩ ⟨_, rfl, rfl, rfl⟩ rfl Tryz.underlying5 (by kernel_rfl) (by kernel_rfl) hg5 hv5 hd5 Tryz.underlying155 (by simp [accL]) i _ (acc_at hi)
 ·have h1 := qbO (k := .u64) (e := 61) (l := [1, 10, 100, 1000, 10000, 100000, 1000000, 10000000, 100000000, 1000000000, 10000000000, 100000000000, 1000000000000, 10000000000000, 100000000000000, 1000000000000000, 10000000000000000, 100000000000000000, 1000000000000000000, 10000000000000000000]) (by kernel_rfl) (by kernel_rfl) hg4 hv4 hd4 (by kernel_rfl) rfl i (Nat.lt_of_lt_of_le hi (by decide))
  rw [h1]
  obtain rfl | rfl | rfl : i = 0 ∨ i = 1 ∨ i = 2 := by omega
  all_goals rfl
end Go.Proofs.YtclnfbmmaofpjaaGreatDoor
namespace Go.Proofs.YtclnfbmmaofpjaaGreatDoor
open Go.ChangeShapes Go.WideShapes Go.ChangeAt Go.RowKit
section
variable {H : Type} {enc : TypeId × Value → H} {P : Program} {w : World} {base : Nat} {spare : Nat → Bool} {held : Bool}
theorem qdM {α : Type} {l : List α} {i : Nat} {x : α} (h : (l.drop i).take 1 = [x]) : l[i]? = some x := by
 have h0 : ((l.drop i).take 1)[0]? = some x := by rw [h]; rfl
 simpa using h0
theorem qnd {r : Reach} {b0 : Nat} {t e : TypeId} {k : IntKind} {v : Value} {d : DataW H} {ps : List MemPlace} (ht : P.underlying t = some (.array 2 e)) (he : P.underlying e = some (.int k)) (ce : P.cellsOf e = 1) (ct : P.cellsOf t = 2)
  (hval : Value.okWide P w r b0 t v) (hd : DataW.Trod enc P w base spare held t v d ps) :
  ∃ a b, v = .agg #[.int k a, .int k b] ∧ d = .agg [.lit (.int k a), .lit (.int k b)] ∧ ps = [] ∧ (Lit.int k a).wf = true ∧ (Lit.int k b).wf = true := by
 obtain ⟨cs, rfl, hs, _⟩ : ∃ cs, v = .agg cs ∧ cs.size = 2 ∧ True := by
  unfold Value.okWide at hval
  rw [ht] at hval
  obtain ⟨cs, h1, h2, _⟩ := hval
  exact ⟨cs, h1, by rw [h2, ct], trivial⟩
 obtain ⟨fuel, hf⟩ := hd
 obtain ⟨xs, m, _, ex, _, hlx, hel⟩ := DataW.trod_array ht hf
 have k0 := hel 0 (by omega)
 have k1 := hel 1 (by omega)
 rw [ce, List.getElem?_eq_getElem (by omega)] at k0 k1
 obtain ⟨a, a0, b0, w0⟩ := DataW.trod_int he k0
 obtain ⟨b, a1, b1, w1⟩ := DataW.trod_int he k1
 have c0 := qdM a0
 have c1 := qdM a1
 simp only [Value.cells, Nat.zero_mul, Nat.one_mul] at c0 c1
 have hcs : cs = #[.int k a, .int k b] := by
  apply Array.ext'
  match hl : cs.toList, (show cs.toList.length = 2 by simpa using hs) with
  | [x, y], _ =>
   rw [hl] at c0 c1
   simp at c0 c1
   rw [c0, c1]
 have hxs : xs = [(.lit (.int k a), []), (.lit (.int k b), [])] := by
  match xs, hlx with
  | [x, y], _ =>
   simp at b0 b1
   rw [b0, b1]
 subst hcs hxs
 have e1 := (Prod.mk.inj ex)
 exact ⟨a, b, rfl, by simpa using e1.1, by simpa using e1.2, w0, w1⟩
theorem qne {t e : TypeId} {k : IntKind} {a b : Int} (ht : P.underlying t = some (.array 2 e)) (he : P.underlying e = some (.int k)) (ce : P.cellsOf e = 1) (ct : P.cellsOf t = 2) (wa : (Lit.int k a).wf = true) (wb : (Lit.int k b).wf = true) :
  DataW.Trod enc P w base spare held t (.agg #[.int k a, .int k b]) (.agg [.lit (.int k a), .lit (.int k b)]) [] :=
 ⟨2, by simp [DataW.trod, Value.cells, ht, he, ce, ct, wa, wb, List.range_succ]⟩
end
theorem qj1 {w w' : World} (h : X.Ch (fun _ => False) w w') : Below w.heap.size w w' := ⟨h.os, h.tape, h.output, h.size, fun k hk => h.block k hk id⟩
theorem qj2 {W : World} (h : laidMetH Tryz.prog ql0 W) : X.gTop ≤ W.heap.size := by
 rw [MakeChecks.laidMetH_plain _ _ _ (by kernel_rfl)] at h
 obtain ⟨ps, ⟨g0, t0, cs0, f0, p0, q0, hg0, ht0, hv0, hd0, ⟨g1, t1, cs1, f1, p1, q1, hg1, ht1, hv1, hd1, ⟨g2, t2, cs2, f2, p2, q2, hg2, ht2, hv2, hd2, ⟨g3, t3, cs3, f3, p3, q3, hg3, ht3, hv3, hd3, _, _⟩, _⟩, _⟩, _⟩, _, _⟩ := h
 obtain rfl := Option.some.inj ((show Tryz.prog.globalNamed "math/bits.deBruijn64tab" = some 6 by kernel_rfl).symm.trans hg3)
 obtain rfl := Option.some.inj ((show (Tryz.prog.globals[6]?).map (·.type) = some 193 by kernel_rfl).symm.trans ht3)
 obtain ⟨xs, m, _, _, hlen, _⟩ := DataW.trod_array Tryz.underlying193 hd3
 have hl : cs3.toList.length = 64 := hlen.trans (by kernel_rfl)
 have hc := World.var?_cell hg3 hv3 0
 have : ∃ v, cs3[0]? = some v := ⟨_, Array.getElem?_eq_getElem (by simpa using (show 0 < cs3.toList.length by omega))⟩
 obtain ⟨v, hv⟩ := this
 rw [hv] at hc
 have := X.cell_lt hc
 show 7 ≤ _
 omega
end Go.Proofs.YtclnfbmmaofpjaaGreatDoor
namespace Go.Proofs.YtclnfbmmaofpjaaGreatDoor
open Go.ChangeShapes Go.WideShapes Go.ChangeAt Go.RowKit
section
variable {H : Type} {enc : TypeId × Value → H} {w : World} {base : Nat}
theorem three_of {cs : List Value} {a b c : Value} (hl : cs.length = 3) (h0 : cs[0]? = some a) (h1 : cs[1]? = some b) (h2 : cs[2]? = some c) : cs = [a, b, c] := by
 match cs, hl with
 | [u0, u1, u2], _ =>
  simp only [List.getElem?_cons_zero, List.getElem?_cons_succ, Option.some.injEq] at h0 h1 h2
  rw [h0, h1, h2]
set_option maxRecDepth 100000 in
theorem ql3 {spare : Nat → Bool} {held : Bool} {n : Nat} {cs : List Value} {x : DataW H × List MemPlace} (h : DataW.trod enc Tryz.prog w base spare held n 37 cs = some x) (hl : cs.length = 3) : ∃ y : X.Stp, cs = y.vals := by
 obtain ⟨xs, m, _, _, _, hlx, hf⟩ := DataW.trod_struct Tryz.underlying37 h
 have c1 : Tryz.prog.cellsOf 9 = 1 := by kernel_rfl
 have c2 : Tryz.prog.cellsOf 3 = 1 := by kernel_rfl
 have k0 : DataW.trod enc Tryz.prog w base spare held m 9 ((cs.drop 0).take (Tryz.prog.cellsOf 9)) = xs[0]? := hf 0 _ rfl
 have k1 : DataW.trod enc Tryz.prog w base spare held m 3 ((cs.drop 1).take (Tryz.prog.cellsOf 3)) = xs[1]? := hf 1 _ rfl
 have k2 : DataW.trod enc Tryz.prog w base spare held m 3 ((cs.drop 2).take (Tryz.prog.cellsOf 3)) = xs[2]? := hf 2 _ rfl
 rw [c1] at k0
 rw [c2] at k1 k2
 have hlx3 : xs.length = 3 := hlx
 rw [List.getElem?_eq_getElem (by omega)] at k0 k1 k2
 obtain ⟨s, a0, _⟩ := DataW.trod_string Tryz.underlying9 k0
 obtain ⟨a, a1, _⟩ := DataW.trod_int Tryz.underlying3 k1
 obtain ⟨b, a2, _⟩ := DataW.trod_int Tryz.underlying3 k2
 have g0 := qdM a0
 have g1 := qdM a1
 have g2 := qdM a2
 exact ⟨⟨s, a, b⟩, three_of hl g0 g1 g2⟩
set_option maxRecDepth 100000 in
theorem qg6 {r : Reach} {b0 : Nat} {t : TypeId} {v : Value} {d : DataW H} {ps : List MemPlace} (ht : Tryz.prog.underlying t = some (.slice 37)) (hval : Value.okWide Tryz.prog w r b0 t v) (hd : DataW.Trod enc Tryz.prog w base (fun _ => true) true t v d ps) :
  ∃ (a : Option Addr) (n sc : Nat) (st : List X.Stp), v = .slice a n sc ∧ (n = 0 ∨ ∃ b off, a = some ⟨b, off, none⟩) ∧ st.length = n ∧ X.Rd w a (X.flatS st) := by
 obtain ⟨a0, n0, c0, rfl⟩ := okWide_slice ht hval
 obtain ⟨fuel, hf⟩ := hd
 have ce : Tryz.prog.cellsOf 37 = 3 := by kernel_rfl
 rcases Deep.open_slice ht hf with ⟨h0, _⟩ | ⟨a, len, cap, m, n, D, Pl, hv, _, hl, _, hm, _, hx⟩
 ·have h1 : Value.slice a0 n0 c0 = .slice none 0 0 := List.head_eq_of_cons_eq h0
  exact ⟨none, 0, 0, [], h1, .inl rfl, rfl, X.Rd.nil _ _⟩
 ·have h1 : Value.slice a0 n0 c0 = .slice (some a) len cap := List.head_eq_of_cons_eq hv
  have hm' : m = cap := by simpa using hm
  rw [ce] at hx
  have each : ∀ i, i < len → ∃ y : X.Stp, w.cells? base (a.add (i * 3)) 3 = some y.vals := fun i hi => by
   obtain ⟨cs, e1, e2⟩ := hx i (by omega)
   obtain ⟨_, hlen, _⟩ := World.cells?_some e1
   obtain ⟨y, rfl⟩ := ql3 e2 hlen
   exact ⟨y, e1⟩
  have : Inhabited X.Stp := ⟨X.stp0⟩
  obtain ⟨f, hfy⟩ := Deep.choose_lt each
  refine ⟨some a, len, cap, (List.range len).map f, h1, ?_, by simp, fun e => (by cases e), fun ad e j u hj => ?_⟩
  ·rcases Nat.eq_zero_or_pos len with h0 | h0
   ·exact .inl h0
   ·right
    obtain ⟨_, _, hc⟩ := World.cells?_some (hfy 0 h0)
    have h2 := hc 0 (by omega)
    rw [Deep.add_add] at h2
    have h3 : w.cell? a = some (.string (f 0).text) := h2
    obtain ⟨b, off, sp⟩ := a
    cases sp with
    | none => exact ⟨b, off, rfl⟩
    | some q =>
     unfold World.cell? at h3
     split at h3
     ·simp at h3
     ·cases h3
  ·obtain rfl := Option.some.inj e
   have hlen : (X.flatS ((List.range len).map f)).length = len * 3 := by rw [X.flatS_len]; simp
   have hlt : j < len * 3 := by
    rw [← hlen]
    exact (List.getElem?_eq_some_iff.1 hj).1
   have hi : j / 3 < len := by omega
   have hr : j % 3 < 3 := by omega
   have hjj : j = j / 3 * 3 + j % 3 := by omega
   have h2 := X.flatS_get ((List.range len).map f) (j / 3) (j % 3) (by simpa using hi) hr
   rw [← hjj, hj] at h2
   have hg : X.gs ((List.range len).map f) (j / 3) = f (j / 3) := by simp [X.gs, List.getD, hi]
   rw [hg] at h2
   obtain ⟨_, _, hc⟩ := World.cells?_some (hfy (j / 3) hi)
   have h3 := hc (j % 3) hr
   rw [Deep.add_add, ← hjj] at h3
   rw [h3, ← h2]
end
end Go.Proofs.YtclnfbmmaofpjaaGreatDoor
