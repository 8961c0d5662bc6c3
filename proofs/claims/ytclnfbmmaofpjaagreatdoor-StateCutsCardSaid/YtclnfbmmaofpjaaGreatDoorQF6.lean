/- What the proof of StateCuts needs, part 6: the walks of the program's functions and the plain laws about them. -/
import Derived.Test.YtclnfbmmaofpjaaGreatDoorQF5
import Derived.Test.YtclnfbmmaofpjaaGreatDoorRows
import Derived.ProofKit
import Derived.OpenShut
import Derived.ChangeArms
import Derived.LaidMore
import Derived.Lay
import Derived.Stop.Joined
import Derived.Below
import Derived.SevenTiedAt
import Derived.Deep.Slices
import Derived.Carry
set_option linter.unusedSimpArgs false
set_option linter.unusedVariables false
namespace Go.Proofs.YtclnfbmmaofpjaaGreatDoor.X
open Go Go.RowKit Go.Proofs.YtclnfbmmaofpjaaGreatDoor
abbrev tI : TypeId := 3
theorem qiP {l : List Int} (h : l.length ≤ 3) (c : Value) (r : List Value) : put (c :: uX 0 :: uX 0 :: uX 0 :: r) 1 (l.map (Value.int .u8)) = c :: uX (mkU l).b0 :: uX (mkU l).b1 :: uX (mkU l).b2 :: r := by
 match l, h with
 | [], _ => rfl
 | [a], _ => rfl
 | [a, b], _ => rfl
 | [a, b, c], _ => rfl
theorem qfj (x : ByteArray) : qeu x = (qH x).map (Value.int .u8) := by
 unfold qeu qH; rw [List.map_map]; rfl
theorem mkU_n (x : ByteArray) : ((x.size : Nat) : Int) = (mkU (qH x)).n := by
 show _ = (((qH x).length : Nat) : Int)
 rw [qcC]
theorem qbQ {most : Int} {s s' : RS} {x : ByteArray} (h : qaD most s = (x, s')) (h0 : 0 < most) : (x.size : Int) ≤ most := by
 have hb := qJ (lim := most + 1) (s := s); unfold qaD at h; rw [if_pos h0] at h; split at h
 ·simp only [Prod.mk.injEq] at h; rw [← h.1]; show (0 : Int) ≤ most; omega
 rename_i n ys e; rw [e] at hb; have a : n < most + 1 := hb.2.2 (by omega); have b : 0 ≤ n := hb.1; split at h
 ·simp only [Prod.mk.injEq] at h; rw [← h.1]; show (0 : Int) ≤ most; omega
 simp only [Prod.mk.injEq] at h; rw [← h.1, qb5, List.length_take]; omega
set_option maxHeartbeats 4000000 in
theorem qiQ {sr rv D : Nat} {s0 s1 : RS} {fine f1 : Bool} {w : World} (hS : SrIn w sr rv D fine s0) {p : PS} (hU : qcc w) (hr7 : gTop ≤ rv) (hs7 : gTop ≤ sr) (hP : qgU s0 fine = (p, s1, f1)) : Calls Tryz.prog 37 [pX sr].toArray w fun e w' =>
 ∃ o n cap, e = .returned (.agg (p.vals (.slice (o.map at0) n cap)).toArray) ∧ Own w' tI 1 o n cap (p.params.map (Value.int .i64)) ∧ (∀ b, o = some b → w.heap.size ≤ b) ∧ SrIn w' sr rv D f1 s1 ∧ Ch (srB sr rv) w w' := by
 refine yA Tryz.func37 rfl <| ysr <| yo (yN [iX 0, uX 0, uX 0, uX 0, iX 0, oX, nX, oX, iX 0] 55 fun dj d dk kT dl bF => ?_); have dm : Ch (srB sr rv) w dj := zt (Ch.refl (srB sr rv) w) bF eZ; have f : w.heap.size ≤ d := by rw [dk]; exact zs (Ch.refl (srB sr rv) w)
 have dn := hS.blk.ch bF id; have dp := hS.rd.ch bF id id; refine ye <| ys <| qW (· = rv) [9, 12] (by kernel_rfl) (fun dq kU aK => ?_); have bG : Ch (srB sr rv) w dq := zt dm aK eZ; have aL := dn.ch aK id; have c1 := dp.ch aK id id; have X := dl.ch aK id; refine ydC [0, 1, 2, 3, 5, 6, 7, 8] [] (fun u hu => (.l (qg hu (aL.c 0) hS.ne) (.l (qg hu (aL.c 0) hS.ne) .z))) <| qbb 4 11 (by kernel_rfl) (by decide) ?_ ?_
 ·obtain ⟨F, aM, a7⟩ : ∃ x s', qK (8) s0 = (x, s') := ⟨_, _, rfl⟩
  have c2 := qJ (lim := 8) (s := s0); rw [a7] at c2; dsimp only at c2; refine qay 4 _ (by kernel_rfl) rfl (yQ (qY (lim := 8) c1 a7 (by omega)) ?_); rintro dr ⟨c3, aN⟩; have bH : Ch (srB sr rv) w dr := zt bG aN (fun _ _ h => .inr h); have c4 := aL.ch aN hS.ne; have Y := X.ch aN (fun (h : d = rv) => by have := f; have := hS.rd.lt; omega); refine qm aN iZ <| qbb 9 11 (by kernel_rfl) (by decide) ?_ ?_
  ·obtain ⟨G, ds, aO⟩ : ∃ x s', qK (8) aM = (x, s') := ⟨_, _, rfl⟩
   have c5 := qJ (lim := 8) (s := aM); rw [aO] at c5; dsimp only at c5; refine qbU 9 _ (by kernel_rfl) rfl (yQ (qY (lim := 8) c3 aO (by omega)) ?_); rintro dt ⟨du, bI⟩; have c6 : Ch (srB sr rv) w dt := zt bH bI (fun _ _ h => .inr h); have dv := c4.ch bI hS.ne; have a3 := Y.ch bI (fun (h : d = rv) => by have := f; have := hS.rd.lt; omega); refine qaL (B := fun j => j = rv) <| ydC [10] [] (fun u hu => .z) <| yH 11 (yN [iX 0, uX 0, uX 0, uX 0, iX 0, oX, nX, oX, iX 0] 55 fun dw q dx kV dy ak => ?_); have dz : Ch (srB sr rv) w dw := zt c6 ak eZ; have E := zn dx c6; have dA := dv.ch ak id; have dB := a3.ch ak id; have dC := du.ch ak id id; refine qm ak eZ <| yK 12 (yT [iX F, uX 0, uX 0, uX 0, iX 0, oX, nX, oX, iX G] dy fun dD dE aP => ?_); have dF : Ch (srB sr rv) w dD := zt dz aP (fun i hi (h : i = q) => by have := E; omega); have dG := dA.ch aP (fun (h : sr = q) => by have := E; have := hS.blk.lt; omega); have dH := dB.ch aP (fun (h : d = q) => by have := a3.lt; omega); have dI := dC.ch aP (fun (h : rv = q) => by have := E; have := hS.rd.lt; omega) (fun (h : D = q) => by have := E; have := hS.rd.dlt; omega); refine q9 <| yDe (nS ?_); refine ys <| yD [7, 8, 11] fun dJ kW al => ?_; have dK : Ch (srB sr rv) w dJ := zt dF al eZ; have c7 := dG.ch al id; have dL := dH.ch al id; have dM := dI.ch al id id; have dN := dE.ch al id; refine yd (uL 0 7) [] (.l (c7.c 0) .z) ?_; obtain ⟨r, dO, aQ⟩ : ∃ x s', qaD 3 ds = (x, s') := ⟨_, _, rfl⟩
   refine yK 7 (yQ (qaO (most := 3) dM aQ (by decide)) ?_); rintro dP ⟨dQ, aR⟩; have dR : Ch (srB sr rv) w dP := zt dK aR (fun _ _ h => .inr h); have dS := c7.ch aR hS.ne; have dT := dL.ch aR (fun (h : d = rv) => by have := f; have := hS.rd.lt; omega); have dU := dN.ch aR (fun (h : q = rv) => by have := E; have := hS.rd.lt; omega); have kX := qbQ aQ (by decide); refine q9 ?_; have Z : (qH r).length ≤ 3 := by rw [qcC]; omega
   refine yK 8 (qgY q 1 3 3 r (some 23) (mkU (qH r)).n (mkU_n r) (by kernel_rfl) dU (by omega) (by simp only [List.length_cons, List.length_nil]; omega) ?_); intro dV c8 aS; rw [qfj, qiP Z] at c8; have dW : Ch (srB sr rv) w dV := zt dR aS (fun i hi (h : i = q) => by have := E; omega); have dX := dS.ch aS (fun (h : sr = q) => by have := E; have := hS.blk.lt; omega); have dY := dT.ch aS (fun (h : d = q) => by have := a3.lt; omega); have dZ := dQ.ch aS (fun (h : rv = q) => by have := E; have := hS.rd.lt; omega) (fun (h : D = q) => by have := E; have := hS.rd.dlt; omega); refine q9 <| yd [9, 10] [] .z <| yK 11 (yT [iX F, uX (mkU (qH r)).b0, uX (mkU (qH r)).b1, uX (mkU (qH r)).b2, iX (mkU (qH r)).n, oX, nX, oX, iX G] c8 fun e0 e1 aT => ?_); have e2 : Ch (srB sr rv) w e0 := zt dW aT (fun i hi (h : i = q) => by have := E; omega); have c9 := dX.ch aT (fun (h : sr = q) => by have := E; have := hS.blk.lt; omega); have e3 := dY.ch aT (fun (h : d = q) => by have := a3.lt; omega); have e4 := dZ.ch aT (fun (h : rv = q) => by have := E; have := hS.rd.lt; omega) (fun (h : D = q) => by have := E; have := hS.rd.dlt; omega); refine q9 <| yDe (nS ?_); refine ysr <| yp 4 [] (.l (c9.c 0) .z) ?_; obtain ⟨L, ca, aU⟩ : ∃ x s', qaD 2 dO = (x, s') := ⟨_, _, rfl⟩
   refine yo (yQ (qaO (most := 2) e4 aU (by decide)) ?_); rintro e5 ⟨e6, aV⟩; have e7 : Ch (srB sr rv) w e5 := zt e2 aV (fun _ _ h => .inr h); have e8 := c9.ch aV hS.ne; have e9 := e3.ch aV (fun (h : d = rv) => by have := f; have := hS.rd.lt; omega); have ea := e1.ch aV (fun (h : q = rv) => by have := E; have := hS.rd.lt; omega); have kY := qbQ aU (by decide); refine yq 6 <| yo (yT [iX F, uX (mkU (qH r)).b0, uX (mkU (qH r)).b1, uX (mkU (qH r)).b2, iX (mkU (qH r)).n, .string L, nX, oX, iX G] ea fun eb ec aW => ?_); have ed : Ch (srB sr rv) w eb := zt e7 aW (fun i hi (h : i = q) => by have := E; omega); have cb := e8.ch aW (fun (h : sr = q) => by have := E; have := hS.blk.lt; omega); have ee := e9.ch aW (fun (h : d = q) => by have := a3.lt; omega); have ef := e6.ch aW (fun (h : rv = q) => by have := E; have := hS.rd.lt; omega) (fun (h : D = q) => by have := E; have := hS.rd.dlt; omega); refine ye <| ys <| ysr <| yp 4 [] (.l (cb.c 0) .z) ?_; obtain ⟨O, cc, aX⟩ : ∃ x s', qK (9) ca = (x, s') := ⟨_, _, rfl⟩
   have cd := qJ (lim := 9) (s := ca); rw [aX] at cd; dsimp only at cd; refine yo (yQ (qY (lim := 9) ef aX (by omega)) ?_); rintro eg ⟨eh, aY⟩; have ei : Ch (srB sr rv) w eg := zt ed aY (fun _ _ h => .inr h); have ej := cb.ch aY hS.ne; have ek := ee.ch aY (fun (h : d = rv) => by have := f; have := hS.rd.lt; omega); have el := ec.ch aY (fun (h : q = rv) => by have := E; have := hS.rd.lt; omega); refine yz 6 <| q8 <| qa2 [0, 2, 3, 36, 37] (f' := [(0, pX sr), (2, pX d), (3, pX q), (36, iX O), (37, iX 0)]) <| qy (σ := Nat × List Int × Option Nat × Nat × Nat × RS) (fun ⟨k, l, o, n, cap, s⟩ => [(0, pX sr), (2, pX d), (3, pX q), (36, iX O), (37, iX ((k : Nat) : Int))]) (fun ⟨k, l, o, n, cap, s⟩ u => k ≤ (O : Int).toNat ∧ qbY ((O : Int).toNat - k) l s = qbY (O : Int).toNat [] cc ∧ Own u tI 1 o n cap (l.map (Value.int .i64)) ∧ (∀ b, o = some b → w.heap.size ≤ b) ∧ (∀ b, o = some b → ¬ b = q) ∧ (∀ b, o = some b → ¬ b = d) ∧ n ≤ k ∧ Blk u sr [pX rv, .bool fine] tSr ∧ Blk u q [iX F, uX (mkU (qH r)).b0, uX (mkU (qH r)).b1, uX (mkU (qH r)).b2, iX (mkU (qH r)).n, .string L, .slice (o.map at0) n cap, oX, iX G] 55 ∧ Blk u d [iX 0, uX 0, uX 0, uX 0, iX 0, oX, nX, oX, iX 0] 55 ∧ RdrAt u rv D s ∧ Ch (srB sr rv) w u) (fun ⟨k, l, o, n, cap, s⟩ => (O : Int).toNat - k) (0, [], none, 0, 0, cc) rfl ?_ ?_
   ·exact ⟨Nat.zero_le _, rfl, Own.nil _ _ _, (fun b e => by cases e), (fun b e => by cases e), (fun b e => by cases e), Nat.le_refl _, ej, el, ek, eh, ei⟩
   intro p kZ em l0 en; obtain ⟨k, l, o, n, cap, s⟩ := p; obtain ⟨hk, hG, hO, y, R, K, ce, hB, a0, a1, hR, a2⟩ := em; have cf : n ≤ cap := hO.2.1; have am : l.length = n := by have h := hO.1; simpa using h
   refine yx 1 <| ys <| yc (rL ((k : Nat) : Int) O) (fun an => ?_) fun an => ?_
   ·have S : (O : Int).toNat - k = ((O : Int).toNat - (k + 1)) + 1 := by omega
    rw [S, qbY] at hG; refine yk <| ys <| q8 <| qW (· = rv) [8, 10] (by kernel_rfl) (fun eo l1 a8 => ?_); have ep : Ch (srB sr rv) w eo := zt a2 a8 eZ; have cg := hB.ch a8 id; have er := a1.ch a8 id; have ci := a0.ch a8 id; have es := hR.ch a8 id id; have et := hO.ch a8 iZ; refine ydC (uL 0 6) [] (fun u hu => (.l (qg hu (ci.c 6) (fun (h : q = rv) => by have := E; have := hS.rd.lt; omega)) (.l (qg hu (cg.c 0) hS.ne) .z))) ?_; obtain ⟨aZ, eu, bJ⟩ : ∃ x s', qK (10000) s = (x, s') := ⟨_, _, rfl⟩
    have cj := qJ (lim := 10000) (s := s); rw [bJ] at cj; dsimp only at cj; refine yH 6 (yQ (qY (lim := 10000) es bJ (by omega)) ?_); rintro ev ⟨ew, a9⟩; have ck : Ch (srB sr rv) w ev := zt ep a9 (fun _ _ h => .inr h); have ex := cg.ch a9 hS.ne; have ey := er.ch a9 (fun (h : d = rv) => by have := f; have := hS.rd.lt; omega); have ez := ci.ch a9 (fun (h : q = rv) => by have := E; have := hS.rd.lt; omega); have cl := et.ch a9 (fun b e (h : b = rv) => by have := y b e; have := hS.rd.lt; omega); refine qm a9 iZ <| yH 7 (yB [iX aZ] 3 1 fun eA cm eB l2 eC a4 => ?_); have l3 := zv (b := cm) cl; have cn : Ch (srB sr rv) w eA := zt ck a4 eZ; have l4 := zn eB ck; have eD := ex.ch a4 id; have co := ey.ch a4 id; have cp := ez.ch a4 id; have eE := cl.ch a4 iZ; have eF := ew.ch a4 id id; refine qm a4 eZ ?_; refine yK 8 (qaq 3 1 8 o n cap (l.map (Value.int .i64)) (some ⟨cm, 0, none⟩) 1 1 [iX aZ] (some 47) (n + 1) rfl ((l ++ [aZ]).map (Value.int .i64)) (by rw [List.map_append]; rfl) (by kernel_rfl) eE (Rd.all eC) rfl rfl (fun h => by cases h) (by constructor <;> first | omega | (simp only [maxLen]; omega)) ?_); intro eG bK cq eH cr l5 aa; have ct := App.of cr aa; have eI : ∀ b, bK = some b → w.heap.size ≤ b := fun b e => by
     rcases cr with h | ⟨g', h, h'⟩
     ·exact y b (h ▸ e)
     rw [h] at e; have := zi e; have := zs cn; omega
    have cu := ct.apart cp.lt R; have eJ := ct.apart co.lt K; have eK : Ch (srB sr rv) w eG := zt cn aa (fun i hi h => by have := y _ h; omega); have eL := eD.ch aa (fun h => by have := y _ h; have := hS.blk.lt; omega); have eM := co.ch aa (fun h => K _ h rfl); have eN := cp.ch aa (fun h => R _ h rfl); have eO := eF.ch aa (fun h => by have := y _ h; have := hS.rd.lt; omega) (fun h => by have := y _ h; have := hS.rd.dlt; omega); refine q9 <| yd [9] [] .z <| yK 10 (yT [iX F, uX (mkU (qH r)).b0, uX (mkU (qH r)).b1, uX (mkU (qH r)).b2, iX (mkU (qH r)).n, .string L, .slice (bK.map at0) (n + 1) cq, oX, iX G] eN fun eP eQ ao => ?_); have eR : Ch (srB sr rv) w eP := zt eK ao (fun i hi (h : i = q) => by have := E; omega); have eT := eL.ch ao (fun (h : sr = q) => by have := E; have := hS.blk.lt; omega); have eU := eM.ch ao (fun (h : d = q) => by have := a3.lt; omega); have eV := eO.ch ao (fun (h : rv = q) => by have := E; have := hS.rd.lt; omega) (fun (h : D = q) => by have := E; have := hS.rd.dlt; omega); have eW := eH.ch ao (fun b e (h : b = q) => cu b e h); refine q9 <| yDe (nB (nS ?_)); refine q7 <| yp 2 [] (.q6 (((k : Nat) : Int) + 1) .z) ?_; rw [bJ] at hG; refine yE (fun a ha => en (k + 1, (l ++ [aZ]), bK, (n + 1), cq, eu) _ ⟨by omega, hG, eW, eI, cu, eJ, by omega, eT, eQ, eU, eV, eR⟩ (by show (O : Int).toNat - (k + 1) < (O : Int).toNat - k; omega) a (ha.kp [0, 2, 3, 36, 37]))
   have S : (O : Int).toNat - k = 0 := by omega
   rw [S, qbY] at hG; refine qo (eS (qf (qe (nS ?_)))); refine ysr <| yp 4 [] (.l (hB.c 0) .z) ?_; obtain ⟨U, l6, b3⟩ : ∃ x s', qaD 40 s = (x, s') := ⟨_, _, rfl⟩
   refine yo (yQ (qaO (most := 40) hR b3 (by decide)) ?_); rintro eX ⟨eY, ap⟩; have fa : Ch (srB sr rv) w eX := zt a2 ap (fun _ _ h => .inr h); have fb := hB.ch ap hS.ne; have fc := a1.ch ap (fun (h : d = rv) => by have := f; have := hS.rd.lt; omega); have fd := a0.ch ap (fun (h : q = rv) => by have := E; have := hS.rd.lt; omega); have fe := hO.ch ap (fun b e (h : b = rv) => by have := y b e; have := hS.rd.lt; omega); have l7 := qbQ b3 (by decide); refine yq 6 <| yo (yT [iX F, uX (mkU (qH r)).b0, uX (mkU (qH r)).b1, uX (mkU (qH r)).b2, iX (mkU (qH r)).n, .string L, .slice (o.map at0) n cap, .string U, iX G] fd fun ff bL aq => ?_); have bM : Ch (srB sr rv) w ff := zt fa aq (fun i hi (h : i = q) => by have := E; omega); have bN := fb.ch aq (fun (h : sr = q) => by have := E; have := hS.blk.lt; omega); have cv := fc.ch aq (fun (h : d = q) => by have := a3.lt; omega); have bO := fe.ch aq (fun b e (h : b = q) => R b e h); have cw := eY.ch aq (fun (h : rv = q) => by have := E; have := hS.rd.lt; omega) (fun (h : D = q) => by have := E; have := hS.rd.dlt; omega); refine ye <| ysr <| yp 6 [] (.l (bN.c 1) .z) <| yw [61] (rY fine) (fun T => ?_) fun T => ?_
   ·refine yp 7 [] (.a (bL.cs 0 9) .z) <| yo (yQ (qmu (PS.mk F (mkU (qH r)) L l U G) (o.map at0) n cap _ (qa3 bM hU (fun h => h.elim (fun (h : qcH = sr) => by have := u_lt; omega) (fun (h : qcH = rv) => by have := u_lt; omega)) (fun h => h.elim (fun (h : qjh = sr) => by have := u_lt; omega) (fun (h : qjh = rv) => by have := u_lt; omega))) (qhB (qd2 _) Z) bO.rd am (by cases ho : o with | none => rw [ho] at hO; exact .inl (hO.2.2.2.1 rfl).1 | some b => exact .inr ⟨b, 0, rfl⟩) (by omega) (by dsimp only; omega)) fun fg ab => ?_); have fh : Ch (srB sr rv) w fg := zt bM ab eZ; have fi := bN.ch ab id; have fj := cv.ch ab id; have fk := bO.ch ab iZ; have fl := cw.ch ab id id; have fm := bL.ch ab id; refine yq 11 <| yo (yT [pX rv, .bool (qq (PS.mk F (mkU (qH r)) L l U G))] fi fun fn fo ar => ?_); have fp : Ch (srB sr rv) w fn := zt fh ar (fun _ _ h => .inl h); have fq := fj.ch ar (fun (h : d = sr) => by have := f; have := hS.blk.lt; omega); have fr := fk.ch ar (fun b e (h : b = sr) => by have := y b e; have := hS.blk.lt; omega); have fs := fl.ch ar (fun h => hS.ne h.symm) (fun h => hS.nd h.symm); have ft := fm.ch ar (fun (h : q = sr) => by have := E; have := hS.blk.lt; omega); refine ye <| ysr <| yp 1 [] (.a (ft.cs 0 9) .z) <| yo (yT [iX F, uX (mkU (qH r)).b0, uX (mkU (qH r)).b1, uX (mkU (qH r)).b2, iX (mkU (qH r)).n, .string L, .slice (o.map at0) n cap, .string U, iX G] fq fun fu fv b4 => ?_); have fw : Ch (srB sr rv) w fu := zt fp b4 (fun i hi (h : i = d) => by have := f; omega)
    have fx := fr.ch b4 (fun b e (h : b = d) => K b e h); have fy := fs.ch b4 (fun (h : rv = d) => by have := f; have := hS.rd.lt; omega) (fun (h : D = d) => by have := f; have := hS.rd.dlt; omega); have fz := fo.ch b4 (fun (h : sr = d) => by have := f; have := hS.blk.lt; omega); refine ye <| qd (qbW (.agg #[iX F, uX (mkU (qH r)).b0, uX (mkU (qH r)).b1, uX (mkU (qH r)).b2, iX (mkU (qH r)).n, .string L, .slice (o.map at0) n cap, .string U, iX G]) (.a (fv.cs 0 9) .z) ?_); rw [qc8 a7 aO aQ aU aX hG.symm b3] at hP; simp only [Prod.mk.injEq] at hP; obtain ⟨rfl, rfl, rfl⟩ := hP; have fA : (qq (PS.mk F (mkU (qH r)) L l U G)) = (fine && qq (PS.mk F (mkU (qH r)) L l U G)) := by rw [T]; rfl
    exact ⟨o, n, cap, rfl, fx, y, ⟨by rw [← fA]; exact fz, fy, hS.ne, hS.nd⟩, fw⟩
   refine yq 11 <| yo (yT [pX rv, .bool false] bN fun fB fC au => ?_); have fD : Ch (srB sr rv) w fB := zt bM au (fun _ _ h => .inl h); have fE := cv.ch au (fun (h : d = sr) => by have := f; have := hS.blk.lt; omega); have fF := bO.ch au (fun b e (h : b = sr) => by have := y b e; have := hS.blk.lt; omega); have fG := cw.ch au (fun h => hS.ne h.symm) (fun h => hS.nd h.symm); have fH := bL.ch au (fun (h : q = sr) => by have := E; have := hS.blk.lt; omega); refine ye <| ysr <| yp 1 [] (.a (fH.cs 0 9) .z) <| yo (yT [iX F, uX (mkU (qH r)).b0, uX (mkU (qH r)).b1, uX (mkU (qH r)).b2, iX (mkU (qH r)).n, .string L, .slice (o.map at0) n cap, .string U, iX G] fE fun fI fJ b5 => ?_); have fK : Ch (srB sr rv) w fI := zt fD b5 (fun i hi (h : i = d) => by have := f; omega); have fL := fF.ch b5 (fun b e (h : b = d) => K b e h); have fM := fG.ch b5 (fun (h : rv = d) => by have := f; have := hS.rd.lt; omega) (fun (h : D = d) => by have := f; have := hS.rd.dlt; omega); have fN := fC.ch b5 (fun (h : sr = d) => by have := f; have := hS.blk.lt; omega); refine ye <| qd (qbW (.agg #[iX F, uX (mkU (qH r)).b0, uX (mkU (qH r)).b1, uX (mkU (qH r)).b2, iX (mkU (qH r)).n, .string L, .slice (o.map at0) n cap, .string U, iX G]) (.a (fJ.cs 0 9) .z) ?_); rw [qc8 a7 aO aQ aU aX hG.symm b3] at hP; simp only [Prod.mk.injEq] at hP; obtain ⟨rfl, rfl, rfl⟩ := hP; have fO : false = (fine && qq (PS.mk F (mkU (qH r)) L l U G)) := by rw [T]; rfl
   exact ⟨o, n, cap, rfl, fL, y, ⟨by rw [← fO]; exact fN, fM, hS.ne, hS.nd⟩, fK⟩
  refine qay 11 _ (by kernel_rfl) rfl (yN [iX 0, uX 0, uX 0, uX 0, iX 0, oX, nX, oX, iX 0] 55 fun fP m fQ l8 fR av => ?_); have fS : Ch (srB sr rv) w fP := zt bH av eZ; have C := zn fQ bH; have fT := c4.ch av id; have fU := Y.ch av id; have fV := c3.ch av id id; refine qm av eZ ?_; obtain ⟨H, fW, b6⟩ : ∃ x s', qK (8) aM = (x, s') := ⟨_, _, rfl⟩
  have cx := qJ (lim := 8) (s := aM); rw [b6] at cx; dsimp only at cx; refine yK 9 (yQ (qY (lim := 8) fV b6 (by omega)) ?_); rintro fX ⟨fY, b7⟩; have fZ : Ch (srB sr rv) w fX := zt fS b7 (fun _ _ h => .inr h); have g0 := fT.ch b7 hS.ne; have g1 := fU.ch b7 (fun (h : d = rv) => by have := f; have := hS.rd.lt; omega); have g2 := fR.ch b7 (fun (h : m = rv) => by have := C; have := hS.rd.lt; omega); refine q9 <| yd [10] [] .z <| yK 12 (yT [iX F, uX 0, uX 0, uX 0, iX 0, oX, nX, oX, iX H] g2 fun g3 g4 b8 => ?_); have g5 : Ch (srB sr rv) w g3 := zt fZ b8 (fun i hi (h : i = m) => by have := C; omega); have g6 := g0.ch b8 (fun (h : sr = m) => by have := C; have := hS.blk.lt; omega); have g7 := g1.ch b8 (fun (h : d = m) => by have := Y.lt; omega); have g8 := fY.ch b8 (fun (h : rv = m) => by have := C; have := hS.rd.lt; omega) (fun (h : D = m) => by have := C; have := hS.rd.dlt; omega); refine q9 <| yDe (nS ?_); refine ys <| yD [7, 8, 11] fun g9 l9 aw => ?_; have ga : Ch (srB sr rv) w g9 := zt g5 aw eZ; have cy := g6.ch aw id; have gb := g7.ch aw id; have gc := g8.ch aw id id; have gd := g4.ch aw id; refine yd (uL 0 7) [] (.l (cy.c 0) .z) ?_; obtain ⟨t, gf, b9⟩ : ∃ x s', qaD 3 fW = (x, s') := ⟨_, _, rfl⟩
  refine yK 7 (yQ (qaO (most := 3) gc b9 (by decide)) ?_); rintro gg ⟨gh, ba⟩; have gi : Ch (srB sr rv) w gg := zt ga ba (fun _ _ h => .inr h); have gj := cy.ch ba hS.ne; have gk := gb.ch ba (fun (h : d = rv) => by have := f; have := hS.rd.lt; omega); have gl := gd.ch ba (fun (h : m = rv) => by have := C; have := hS.rd.lt; omega); have la := qbQ b9 (by decide); refine q9 ?_; have Z : (qH t).length ≤ 3 := by rw [qcC]; omega
  refine yK 8 (qgY m 1 3 3 t (some 23) (mkU (qH t)).n (mkU_n t) (by kernel_rfl) gl (by omega) (by simp only [List.length_cons, List.length_nil]; omega) ?_); intro gm cz bb; rw [qfj, qiP Z] at cz; have gn : Ch (srB sr rv) w gm := zt gi bb (fun i hi (h : i = m) => by have := C; omega); have gp := gj.ch bb (fun (h : sr = m) => by have := C; have := hS.blk.lt; omega); have gq := gk.ch bb (fun (h : d = m) => by have := Y.lt; omega); have gr := gh.ch bb (fun (h : rv = m) => by have := C; have := hS.rd.lt; omega) (fun (h : D = m) => by have := C; have := hS.rd.dlt; omega); refine q9 <| yd [9, 10] [] .z <| yK 11 (yT [iX F, uX (mkU (qH t)).b0, uX (mkU (qH t)).b1, uX (mkU (qH t)).b2, iX (mkU (qH t)).n, oX, nX, oX, iX H] cz fun gs gu bc => ?_); have gv : Ch (srB sr rv) w gs := zt gn bc (fun i hi (h : i = m) => by have := C; omega); have cA := gp.ch bc (fun (h : sr = m) => by have := C; have := hS.blk.lt; omega); have gw := gq.ch bc (fun (h : d = m) => by have := Y.lt; omega); have gx := gr.ch bc (fun (h : rv = m) => by have := C; have := hS.rd.lt; omega) (fun (h : D = m) => by have := C; have := hS.rd.dlt; omega); refine q9 <| yDe (nS ?_); refine ysr <| yp 4 [] (.l (cA.c 0) .z) ?_; obtain ⟨M, cB, bd⟩ : ∃ x s', qaD 2 gf = (x, s') := ⟨_, _, rfl⟩
  refine yo (yQ (qaO (most := 2) gx bd (by decide)) ?_); rintro gy ⟨gz, bf⟩; have gA : Ch (srB sr rv) w gy := zt gv bf (fun _ _ h => .inr h); have gB := cA.ch bf hS.ne; have gC := gw.ch bf (fun (h : d = rv) => by have := f; have := hS.rd.lt; omega); have gD := gu.ch bf (fun (h : m = rv) => by have := C; have := hS.rd.lt; omega); have lb := qbQ bd (by decide); refine yq 6 <| yo (yT [iX F, uX (mkU (qH t)).b0, uX (mkU (qH t)).b1, uX (mkU (qH t)).b2, iX (mkU (qH t)).n, .string M, nX, oX, iX H] gD fun gE gF bg => ?_); have gG : Ch (srB sr rv) w gE := zt gA bg (fun i hi (h : i = m) => by have := C; omega); have cC := gB.ch bg (fun (h : sr = m) => by have := C; have := hS.blk.lt; omega); have gH := gC.ch bg (fun (h : d = m) => by have := Y.lt; omega); have gI := gz.ch bg (fun (h : rv = m) => by have := C; have := hS.rd.lt; omega) (fun (h : D = m) => by have := C; have := hS.rd.dlt; omega); refine ye <| ys <| ysr <| yp 4 [] (.l (cC.c 0) .z) ?_; obtain ⟨P, cD, bh⟩ : ∃ x s', qK (9) cB = (x, s') := ⟨_, _, rfl⟩
  have cE := qJ (lim := 9) (s := cB); rw [bh] at cE; dsimp only at cE; refine yo (yQ (qY (lim := 9) gI bh (by omega)) ?_); rintro gJ ⟨gK, bi⟩; have gL : Ch (srB sr rv) w gJ := zt gG bi (fun _ _ h => .inr h); have gM := cC.ch bi hS.ne; have gN := gH.ch bi (fun (h : d = rv) => by have := f; have := hS.rd.lt; omega); have gO := gF.ch bi (fun (h : m = rv) => by have := C; have := hS.rd.lt; omega); refine yz 6 <| q8 <| qa2 [0, 2, 3, 36, 37] (f' := [(0, pX sr), (2, pX d), (3, pX m), (36, iX P), (37, iX 0)]) <| qy (σ := Nat × List Int × Option Nat × Nat × Nat × RS) (fun ⟨k, l, o, n, cap, s⟩ => [(0, pX sr), (2, pX d), (3, pX m), (36, iX P), (37, iX ((k : Nat) : Int))]) (fun ⟨k, l, o, n, cap, s⟩ u => k ≤ (P : Int).toNat ∧ qbY ((P : Int).toNat - k) l s = qbY (P : Int).toNat [] cD ∧ Own u tI 1 o n cap (l.map (Value.int .i64)) ∧ (∀ b, o = some b → w.heap.size ≤ b) ∧ (∀ b, o = some b → ¬ b = m) ∧ (∀ b, o = some b → ¬ b = d) ∧ n ≤ k ∧ Blk u sr [pX rv, .bool fine] tSr ∧ Blk u m [iX F, uX (mkU (qH t)).b0, uX (mkU (qH t)).b1, uX (mkU (qH t)).b2, iX (mkU (qH t)).n, .string M, .slice (o.map at0) n cap, oX, iX H] 55 ∧ Blk u d [iX 0, uX 0, uX 0, uX 0, iX 0, oX, nX, oX, iX 0] 55 ∧ RdrAt u rv D s ∧ Ch (srB sr rv) w u) (fun ⟨k, l, o, n, cap, s⟩ => (P : Int).toNat - k) (0, [], none, 0, 0, cD) rfl ?_ ?_
  ·exact ⟨Nat.zero_le _, rfl, Own.nil _ _ _, (fun b e => by cases e), (fun b e => by cases e), (fun b e => by cases e), Nat.le_refl _, gM, gO, gN, gK, gL⟩
  intro p lc gP ld gQ; obtain ⟨k, l, o, n, cap, s⟩ := p; obtain ⟨hk, hG, hO, y, R, K, ce, hB, a0, a1, hR, a2⟩ := gP; have cf : n ≤ cap := hO.2.1; have am : l.length = n := by have h := hO.1; simpa using h
  refine yx 1 <| ys <| yc (rL ((k : Nat) : Int) P) (fun an => ?_) fun an => ?_
  ·have S : (P : Int).toNat - k = ((P : Int).toNat - (k + 1)) + 1 := by omega
   rw [S, qbY] at hG; refine yk <| ys <| q8 <| qW (· = rv) [8, 10] (by kernel_rfl) (fun gR lf ac => ?_); have gS : Ch (srB sr rv) w gR := zt a2 ac eZ; have cF := hB.ch ac id; have gT := a1.ch ac id; have cG := a0.ch ac id; have gU := hR.ch ac id id; have gV := hO.ch ac iZ; refine ydC (uL 0 6) [] (fun u hu => (.l (qg hu (cG.c 6) (fun (h : m = rv) => by have := C; have := hS.rd.lt; omega)) (.l (qg hu (cF.c 0) hS.ne) .z))) ?_; obtain ⟨bj, gW, bP⟩ : ∃ x s', qK (10000) s = (x, s') := ⟨_, _, rfl⟩
   have cH := qJ (lim := 10000) (s := s); rw [bP] at cH; dsimp only at cH; refine yH 6 (yQ (qY (lim := 10000) gU bP (by omega)) ?_); rintro gX ⟨gY, ad⟩; have cI : Ch (srB sr rv) w gX := zt gS ad (fun _ _ h => .inr h); have gZ := cF.ch ad hS.ne; have h0 := gT.ch ad (fun (h : d = rv) => by have := f; have := hS.rd.lt; omega); have h1 := cG.ch ad (fun (h : m = rv) => by have := C; have := hS.rd.lt; omega); have cJ := gV.ch ad (fun b e (h : b = rv) => by have := y b e; have := hS.rd.lt; omega); refine qm ad iZ <| yH 7 (yB [iX bj] 3 1 fun h2 cK h3 lg h4 a5 => ?_); have lh := zv (b := cK) cJ; have cL : Ch (srB sr rv) w h2 := zt cI a5 eZ; have li := zn h3 cI; have h5 := gZ.ch a5 id; have cM := h0.ch a5 id; have cN := h1.ch a5 id; have h6 := cJ.ch a5 iZ; have h7 := gY.ch a5 id id; refine qm a5 eZ ?_; refine yK 8 (qaq 3 1 8 o n cap (l.map (Value.int .i64)) (some ⟨cK, 0, none⟩) 1 1 [iX bj] (some 47) (n + 1) rfl ((l ++ [bj]).map (Value.int .i64)) (by rw [List.map_append]; rfl) (by kernel_rfl) h6 (Rd.all h4) rfl rfl (fun h => by cases h) (by constructor <;> first | omega | (simp only [maxLen]; omega)) ?_); intro h8 bQ cO h9 cP lj ae; have cQ := App.of cP ae; have hb : ∀ b, bQ = some b → w.heap.size ≤ b := fun b e => by
    rcases cP with h | ⟨g', h, h'⟩
    ·exact y b (h ▸ e)
    rw [h] at e; have := zi e; have := zs cL; omega
   have cR := cQ.apart cN.lt R; have hc := cQ.apart cM.lt K; have hd : Ch (srB sr rv) w h8 := zt cL ae (fun i hi h => by have := y _ h; omega); have hf := h5.ch ae (fun h => by have := y _ h; have := hS.blk.lt; omega); have hg := cM.ch ae (fun h => K _ h rfl); have hh := cN.ch ae (fun h => R _ h rfl); have hj := h7.ch ae (fun h => by have := y _ h; have := hS.rd.lt; omega) (fun h => by have := y _ h; have := hS.rd.dlt; omega); refine q9 <| yd [9] [] .z <| yK 10 (yT [iX F, uX (mkU (qH t)).b0, uX (mkU (qH t)).b1, uX (mkU (qH t)).b2, iX (mkU (qH t)).n, .string M, .slice (bQ.map at0) (n + 1) cO, oX, iX H] hh fun hl hm ax => ?_); have hn : Ch (srB sr rv) w hl := zt hd ax (fun i hi (h : i = m) => by have := C; omega); have hp := hf.ch ax (fun (h : sr = m) => by have := C; have := hS.blk.lt; omega); have hq := hg.ch ax (fun (h : d = m) => by have := Y.lt; omega); have hr := hj.ch ax (fun (h : rv = m) => by have := C; have := hS.rd.lt; omega) (fun (h : D = m) => by have := C; have := hS.rd.dlt; omega); have hs := h9.ch ax (fun b e (h : b = m) => cR b e h); refine q9 <| yDe (nB (nS ?_)); refine q7 <| yp 2 [] (.q6 (((k : Nat) : Int) + 1) .z) ?_; rw [bP] at hG; refine yE (fun a ha => gQ (k + 1, (l ++ [bj]), bQ, (n + 1), cO, gW) _ ⟨by omega, hG, hs, hb, cR, hc, by omega, hp, hm, hq, hr, hn⟩ (by show (P : Int).toNat - (k + 1) < (P : Int).toNat - k; omega) a (ha.kp [0, 2, 3, 36, 37]))
  have S : (P : Int).toNat - k = 0 := by omega
  rw [S, qbY] at hG; refine qo (eS (qf (qe (nS ?_)))); refine ysr <| yp 4 [] (.l (hB.c 0) .z) ?_; obtain ⟨V, lk, bk⟩ : ∃ x s', qaD 40 s = (x, s') := ⟨_, _, rfl⟩
  refine yo (yQ (qaO (most := 40) hR bk (by decide)) ?_); rintro ht ⟨hv, ay⟩; have hw : Ch (srB sr rv) w ht := zt a2 ay (fun _ _ h => .inr h); have hx := hB.ch ay hS.ne; have hy := a1.ch ay (fun (h : d = rv) => by have := f; have := hS.rd.lt; omega); have hz := a0.ch ay (fun (h : m = rv) => by have := C; have := hS.rd.lt; omega); have hA := hO.ch ay (fun b e (h : b = rv) => by have := y b e; have := hS.rd.lt; omega); have ll := qbQ bk (by decide); refine yq 6 <| yo (yT [iX F, uX (mkU (qH t)).b0, uX (mkU (qH t)).b1, uX (mkU (qH t)).b2, iX (mkU (qH t)).n, .string M, .slice (o.map at0) n cap, .string V, iX H] hz fun hC bR az => ?_); have bS : Ch (srB sr rv) w hC := zt hw az (fun i hi (h : i = m) => by have := C; omega); have bT := hx.ch az (fun (h : sr = m) => by have := C; have := hS.blk.lt; omega); have cS := hy.ch az (fun (h : d = m) => by have := Y.lt; omega); have bU := hA.ch az (fun b e (h : b = m) => R b e h); have cT := hv.ch az (fun (h : rv = m) => by have := C; have := hS.rd.lt; omega) (fun (h : D = m) => by have := C; have := hS.rd.dlt; omega); refine ye <| ysr <| yp 6 [] (.l (bT.c 1) .z) <| yw [61] (rY fine) (fun T => ?_) fun T => ?_
  ·refine yp 7 [] (.a (bR.cs 0 9) .z) <| yo (yQ (qmu (PS.mk F (mkU (qH t)) M l V H) (o.map at0) n cap _ (qa3 bS hU (fun h => h.elim (fun (h : qcH = sr) => by have := u_lt; omega) (fun (h : qcH = rv) => by have := u_lt; omega)) (fun h => h.elim (fun (h : qjh = sr) => by have := u_lt; omega) (fun (h : qjh = rv) => by have := u_lt; omega))) (qhB (qd2 _) Z) bU.rd am (by cases ho : o with | none => rw [ho] at hO; exact .inl (hO.2.2.2.1 rfl).1 | some b => exact .inr ⟨b, 0, rfl⟩) (by omega) (by dsimp only; omega)) fun hD af => ?_); have hE : Ch (srB sr rv) w hD := zt bS af eZ; have hF := bT.ch af id; have hH := cS.ch af id; have hI := bU.ch af iZ; have hJ := cT.ch af id id; have hK := bR.ch af id; refine yq 11 <| yo (yT [pX rv, .bool (qq (PS.mk F (mkU (qH t)) M l V H))] hF fun hL hM aA => ?_); have hN : Ch (srB sr rv) w hL := zt hE aA (fun _ _ h => .inl h); have hQ := hH.ch aA (fun (h : d = sr) => by have := f; have := hS.blk.lt; omega); have hT := hI.ch aA (fun b e (h : b = sr) => by have := y b e; have := hS.blk.lt; omega); have hV := hJ.ch aA (fun h => hS.ne h.symm) (fun h => hS.nd h.symm); have hW := hK.ch aA (fun (h : m = sr) => by have := C; have := hS.blk.lt; omega); refine ye <| ysr <| yp 1 [] (.a (hW.cs 0 9) .z) <| yo (yT [iX F, uX (mkU (qH t)).b0, uX (mkU (qH t)).b1, uX (mkU (qH t)).b2, iX (mkU (qH t)).n, .string M, .slice (o.map at0) n cap, .string V, iX H] hQ fun hX hY bl => ?_); have hZ : Ch (srB sr rv) w hX := zt hN bl (fun i hi (h : i = d) => by have := f; omega)
   have ia := hT.ch bl (fun b e (h : b = d) => K b e h); have ib := hV.ch bl (fun (h : rv = d) => by have := f; have := hS.rd.lt; omega) (fun (h : D = d) => by have := f; have := hS.rd.dlt; omega); have ic := hM.ch bl (fun (h : sr = d) => by have := f; have := hS.blk.lt; omega); refine ye <| qd (qbW (.agg #[iX F, uX (mkU (qH t)).b0, uX (mkU (qH t)).b1, uX (mkU (qH t)).b2, iX (mkU (qH t)).n, .string M, .slice (o.map at0) n cap, .string V, iX H]) (.a (hY.cs 0 9) .z) ?_); rw [qc8 a7 b6 b9 bd bh hG.symm bk] at hP; simp only [Prod.mk.injEq] at hP; obtain ⟨rfl, rfl, rfl⟩ := hP; have ie : (qq (PS.mk F (mkU (qH t)) M l V H)) = (fine && qq (PS.mk F (mkU (qH t)) M l V H)) := by rw [T]; rfl
   exact ⟨o, n, cap, rfl, ia, y, ⟨by rw [← ie]; exact ic, ib, hS.ne, hS.nd⟩, hZ⟩
  refine yq 11 <| yo (yT [pX rv, .bool false] bT fun ig ih aB => ?_); have ii : Ch (srB sr rv) w ig := zt bS aB (fun _ _ h => .inl h); have ij := cS.ch aB (fun (h : d = sr) => by have := f; have := hS.blk.lt; omega); have ik := bU.ch aB (fun b e (h : b = sr) => by have := y b e; have := hS.blk.lt; omega); have il := cT.ch aB (fun h => hS.ne h.symm) (fun h => hS.nd h.symm); have im := bR.ch aB (fun (h : m = sr) => by have := C; have := hS.blk.lt; omega); refine ye <| ysr <| yp 1 [] (.a (im.cs 0 9) .z) <| yo (yT [iX F, uX (mkU (qH t)).b0, uX (mkU (qH t)).b1, uX (mkU (qH t)).b2, iX (mkU (qH t)).n, .string M, .slice (o.map at0) n cap, .string V, iX H] ij fun io ip bm => ?_); have iq : Ch (srB sr rv) w io := zt ii bm (fun i hi (h : i = d) => by have := f; omega); have ir := ik.ch bm (fun b e (h : b = d) => K b e h); have iu := il.ch bm (fun (h : rv = d) => by have := f; have := hS.rd.lt; omega) (fun (h : D = d) => by have := f; have := hS.rd.dlt; omega); have iv := ih.ch bm (fun (h : sr = d) => by have := f; have := hS.blk.lt; omega); refine ye <| qd (qbW (.agg #[iX F, uX (mkU (qH t)).b0, uX (mkU (qH t)).b1, uX (mkU (qH t)).b2, iX (mkU (qH t)).n, .string M, .slice (o.map at0) n cap, .string V, iX H]) (.a (ip.cs 0 9) .z) ?_); rw [qc8 a7 b6 b9 bd bh hG.symm bk] at hP; simp only [Prod.mk.injEq] at hP; obtain ⟨rfl, rfl, rfl⟩ := hP; have iw : false = (fine && qq (PS.mk F (mkU (qH t)) M l V H)) := by rw [T]; rfl
  exact ⟨o, n, cap, rfl, ir, y, ⟨by rw [← iw]; exact iv, iu, hS.ne, hS.nd⟩, iq⟩
 refine qay 11 _ (by kernel_rfl) rfl (yN [iX 0, uX 0, uX 0, uX 0, iX 0, oX, nX, oX, iX 0] 55 fun ix g iy lm iz aC => ?_); have iA : Ch (srB sr rv) w ix := zt bG aC eZ; have A := zn iy bG; have iB := aL.ch aC id; have iC := c1.ch aC id id; have iD := X.ch aC id; refine qm aC eZ ?_; obtain ⟨I, cU, bn⟩ : ∃ x s', qK (8) s0 = (x, s') := ⟨_, _, rfl⟩
 have cV := qJ (lim := 8) (s := s0); rw [bn] at cV; dsimp only at cV; refine yH 4 (yQ (qY (lim := 8) iC bn (by omega)) ?_); rintro iE ⟨iF, aD⟩; have iG : Ch (srB sr rv) w iE := zt iA aD (fun _ _ h => .inr h); have iH := iB.ch aD hS.ne; have iI := iD.ch aD (fun (h : d = rv) => by have := f; have := hS.rd.lt; omega); have iJ := iz.ch aD (fun (h : g = rv) => by have := A; have := hS.rd.lt; omega); refine qm aD iZ ?_; obtain ⟨J, iK, bo⟩ : ∃ x s', qK (8) cU = (x, s') := ⟨_, _, rfl⟩
 have cW := qJ (lim := 8) (s := cU); rw [bo] at cW; dsimp only at cW; refine yK 9 (yQ (qY (lim := 8) iF bo (by omega)) ?_); rintro iL ⟨iM, bp⟩; have iN : Ch (srB sr rv) w iL := zt iG bp (fun _ _ h => .inr h); have iO := iH.ch bp hS.ne; have iP := iI.ch bp (fun (h : d = rv) => by have := f; have := hS.rd.lt; omega); have iQ := iJ.ch bp (fun (h : g = rv) => by have := A; have := hS.rd.lt; omega); refine q9 <| yd [10] [] .z <| yK 12 (yT [iX I, uX 0, uX 0, uX 0, iX 0, oX, nX, oX, iX J] iQ fun iR iS bq => ?_); have iT : Ch (srB sr rv) w iR := zt iN bq (fun i hi (h : i = g) => by have := A; omega); have iU := iO.ch bq (fun (h : sr = g) => by have := A; have := hS.blk.lt; omega); have iV := iP.ch bq (fun (h : d = g) => by have := X.lt; omega); have iW := iM.ch bq (fun (h : rv = g) => by have := A; have := hS.rd.lt; omega) (fun (h : D = g) => by have := A; have := hS.rd.dlt; omega); refine q9 <| yDe (nS ?_); refine ys <| yD [7, 8, 11] fun iY ln aE => ?_; have j0 : Ch (srB sr rv) w iY := zt iT aE eZ; have cX := iU.ch aE id; have j1 := iV.ch aE id; have j2 := iW.ch aE id id; have j3 := iS.ch aE id; refine yd (uL 0 7) [] (.l (cX.c 0) .z) ?_; obtain ⟨v, j4, br⟩ : ∃ x s', qaD 3 iK = (x, s') := ⟨_, _, rfl⟩
 refine yK 7 (yQ (qaO (most := 3) j2 br (by decide)) ?_); rintro j5 ⟨j6, bs⟩; have j7 : Ch (srB sr rv) w j5 := zt j0 bs (fun _ _ h => .inr h); have j8 := cX.ch bs hS.ne; have j9 := j1.ch bs (fun (h : d = rv) => by have := f; have := hS.rd.lt; omega); have ja := j3.ch bs (fun (h : g = rv) => by have := A; have := hS.rd.lt; omega); have lo := qbQ br (by decide); refine q9 ?_; have Z : (qH v).length ≤ 3 := by rw [qcC]; omega
 refine yK 8 (qgY g 1 3 3 v (some 23) (mkU (qH v)).n (mkU_n v) (by kernel_rfl) ja (by omega) (by simp only [List.length_cons, List.length_nil]; omega) ?_); intro jb cY bt; rw [qfj, qiP Z] at cY; have jc : Ch (srB sr rv) w jb := zt j7 bt (fun i hi (h : i = g) => by have := A; omega); have jd := j8.ch bt (fun (h : sr = g) => by have := A; have := hS.blk.lt; omega); have je := j9.ch bt (fun (h : d = g) => by have := X.lt; omega); have jf := j6.ch bt (fun (h : rv = g) => by have := A; have := hS.rd.lt; omega) (fun (h : D = g) => by have := A; have := hS.rd.dlt; omega); refine q9 <| yd [9, 10] [] .z <| yK 11 (yT [iX I, uX (mkU (qH v)).b0, uX (mkU (qH v)).b1, uX (mkU (qH v)).b2, iX (mkU (qH v)).n, oX, nX, oX, iX J] cY fun jg jh bu => ?_); have ji : Ch (srB sr rv) w jg := zt jc bu (fun i hi (h : i = g) => by have := A; omega); have cZ := jd.ch bu (fun (h : sr = g) => by have := A; have := hS.blk.lt; omega); have jj := je.ch bu (fun (h : d = g) => by have := X.lt; omega); have jk := jf.ch bu (fun (h : rv = g) => by have := A; have := hS.rd.lt; omega) (fun (h : D = g) => by have := A; have := hS.rd.dlt; omega); refine q9 <| yDe (nS ?_); refine ysr <| yp 4 [] (.l (cZ.c 0) .z) ?_; obtain ⟨N, d0, bv⟩ : ∃ x s', qaD 2 j4 = (x, s') := ⟨_, _, rfl⟩
 refine yo (yQ (qaO (most := 2) jk bv (by decide)) ?_); rintro jl ⟨jm, bw⟩; have jn : Ch (srB sr rv) w jl := zt ji bw (fun _ _ h => .inr h); have jo := cZ.ch bw hS.ne; have jp := jj.ch bw (fun (h : d = rv) => by have := f; have := hS.rd.lt; omega); have jq := jh.ch bw (fun (h : g = rv) => by have := A; have := hS.rd.lt; omega); have lp := qbQ bv (by decide); refine yq 6 <| yo (yT [iX I, uX (mkU (qH v)).b0, uX (mkU (qH v)).b1, uX (mkU (qH v)).b2, iX (mkU (qH v)).n, .string N, nX, oX, iX J] jq fun jr js bx => ?_); have jt : Ch (srB sr rv) w jr := zt jn bx (fun i hi (h : i = g) => by have := A; omega); have d1 := jo.ch bx (fun (h : sr = g) => by have := A; have := hS.blk.lt; omega); have ju := jp.ch bx (fun (h : d = g) => by have := X.lt; omega); have jv := jm.ch bx (fun (h : rv = g) => by have := A; have := hS.rd.lt; omega) (fun (h : D = g) => by have := A; have := hS.rd.dlt; omega); refine ye <| ys <| ysr <| yp 4 [] (.l (d1.c 0) .z) ?_; obtain ⟨Q, d2, bz⟩ : ∃ x s', qK (9) d0 = (x, s') := ⟨_, _, rfl⟩
 have d3 := qJ (lim := 9) (s := d0); rw [bz] at d3; dsimp only at d3; refine yo (yQ (qY (lim := 9) jv bz (by omega)) ?_); rintro jw ⟨jx, bA⟩; have jy : Ch (srB sr rv) w jw := zt jt bA (fun _ _ h => .inr h); have jz := d1.ch bA hS.ne; have jA := ju.ch bA (fun (h : d = rv) => by have := f; have := hS.rd.lt; omega); have jB := js.ch bA (fun (h : g = rv) => by have := A; have := hS.rd.lt; omega); refine yz 6 <| q8 <| qa2 [0, 2, 3, 36, 37] (f' := [(0, pX sr), (2, pX d), (3, pX g), (36, iX Q), (37, iX 0)]) <| qy (σ := Nat × List Int × Option Nat × Nat × Nat × RS) (fun ⟨k, l, o, n, cap, s⟩ => [(0, pX sr), (2, pX d), (3, pX g), (36, iX Q), (37, iX ((k : Nat) : Int))]) (fun ⟨k, l, o, n, cap, s⟩ u => k ≤ (Q : Int).toNat ∧ qbY ((Q : Int).toNat - k) l s = qbY (Q : Int).toNat [] d2 ∧ Own u tI 1 o n cap (l.map (Value.int .i64)) ∧ (∀ b, o = some b → w.heap.size ≤ b) ∧ (∀ b, o = some b → ¬ b = g) ∧ (∀ b, o = some b → ¬ b = d) ∧ n ≤ k ∧ Blk u sr [pX rv, .bool fine] tSr ∧ Blk u g [iX I, uX (mkU (qH v)).b0, uX (mkU (qH v)).b1, uX (mkU (qH v)).b2, iX (mkU (qH v)).n, .string N, .slice (o.map at0) n cap, oX, iX J] 55 ∧ Blk u d [iX 0, uX 0, uX 0, uX 0, iX 0, oX, nX, oX, iX 0] 55 ∧ RdrAt u rv D s ∧ Ch (srB sr rv) w u) (fun ⟨k, l, o, n, cap, s⟩ => (Q : Int).toNat - k) (0, [], none, 0, 0, d2) rfl ?_ ?_
 ·exact ⟨Nat.zero_le _, rfl, Own.nil _ _ _, (fun b e => by cases e), (fun b e => by cases e), (fun b e => by cases e), Nat.le_refl _, jz, jB, jA, jx, jy⟩
 intro p lq jC lr jD; obtain ⟨k, l, o, n, cap, s⟩ := p; obtain ⟨hk, hG, hO, y, R, K, ce, hB, a0, a1, hR, a2⟩ := jC; have cf : n ≤ cap := hO.2.1; have am : l.length = n := by have h := hO.1; simpa using h
 refine yx 1 <| ys <| yc (rL ((k : Nat) : Int) Q) (fun an => ?_) fun an => ?_
 ·have S : (Q : Int).toNat - k = ((Q : Int).toNat - (k + 1)) + 1 := by omega
  rw [S, qbY] at hG; refine yk <| ys <| q8 <| qW (· = rv) [8, 10] (by kernel_rfl) (fun jE ls ag => ?_); have jF : Ch (srB sr rv) w jE := zt a2 ag eZ; have d4 := hB.ch ag id; have jG := a1.ch ag id; have d5 := a0.ch ag id; have jH := hR.ch ag id id; have jI := hO.ch ag iZ; refine ydC (uL 0 6) [] (fun u hu => (.l (qg hu (d5.c 6) (fun (h : g = rv) => by have := A; have := hS.rd.lt; omega)) (.l (qg hu (d4.c 0) hS.ne) .z))) ?_; obtain ⟨bB, jJ, bV⟩ : ∃ x s', qK (10000) s = (x, s') := ⟨_, _, rfl⟩
  have d6 := qJ (lim := 10000) (s := s); rw [bV] at d6; dsimp only at d6; refine yH 6 (yQ (qY (lim := 10000) jH bV (by omega)) ?_); rintro jK ⟨jL, ah⟩; have d7 : Ch (srB sr rv) w jK := zt jF ah (fun _ _ h => .inr h); have jM := d4.ch ah hS.ne; have jN := jG.ch ah (fun (h : d = rv) => by have := f; have := hS.rd.lt; omega); have jO := d5.ch ah (fun (h : g = rv) => by have := A; have := hS.rd.lt; omega); have d8 := jI.ch ah (fun b e (h : b = rv) => by have := y b e; have := hS.rd.lt; omega); refine qm ah iZ <| yH 7 (yB [iX bB] 3 1 fun jP d9 jQ lu jR a6 => ?_); have lv := zv (b := d9) d8; have da : Ch (srB sr rv) w jP := zt d7 a6 eZ; have lw := zn jQ d7; have jS := jM.ch a6 id; have db := jN.ch a6 id; have dc := jO.ch a6 id; have jT := d8.ch a6 iZ; have jU := jL.ch a6 id id; refine qm a6 eZ ?_; refine yK 8 (qaq 3 1 8 o n cap (l.map (Value.int .i64)) (some ⟨d9, 0, none⟩) 1 1 [iX bB] (some 47) (n + 1) rfl ((l ++ [bB]).map (Value.int .i64)) (by rw [List.map_append]; rfl) (by kernel_rfl) jT (Rd.all jR) rfl rfl (fun h => by cases h) (by constructor <;> first | omega | (simp only [maxLen]; omega)) ?_); intro jV bW dd jW de lx ai; have df := App.of de ai; have jX : ∀ b, bW = some b → w.heap.size ≤ b := fun b e => by
   rcases de with h | ⟨g', h, h'⟩
   ·exact y b (h ▸ e)
   rw [h] at e; have := zi e; have := zs da; omega
  have dg := df.apart dc.lt R; have jY := df.apart db.lt K; have jZ : Ch (srB sr rv) w jV := zt da ai (fun i hi h => by have := y _ h; omega); have k0 := jS.ch ai (fun h => by have := y _ h; have := hS.blk.lt; omega); have k1 := db.ch ai (fun h => K _ h rfl); have k2 := dc.ch ai (fun h => R _ h rfl); have k3 := jU.ch ai (fun h => by have := y _ h; have := hS.rd.lt; omega) (fun h => by have := y _ h; have := hS.rd.dlt; omega); refine q9 <| yd [9] [] .z <| yK 10 (yT [iX I, uX (mkU (qH v)).b0, uX (mkU (qH v)).b1, uX (mkU (qH v)).b2, iX (mkU (qH v)).n, .string N, .slice (bW.map at0) (n + 1) dd, oX, iX J] k2 fun k4 k5 aF => ?_); have k6 : Ch (srB sr rv) w k4 := zt jZ aF (fun i hi (h : i = g) => by have := A; omega); have k7 := k0.ch aF (fun (h : sr = g) => by have := A; have := hS.blk.lt; omega); have k8 := k1.ch aF (fun (h : d = g) => by have := X.lt; omega); have k9 := k3.ch aF (fun (h : rv = g) => by have := A; have := hS.rd.lt; omega) (fun (h : D = g) => by have := A; have := hS.rd.dlt; omega); have ka := jW.ch aF (fun b e (h : b = g) => dg b e h); refine q9 <| yDe (nB (nS ?_)); refine q7 <| yp 2 [] (.q6 (((k : Nat) : Int) + 1) .z) ?_; rw [bV] at hG; refine yE (fun a ha => jD (k + 1, (l ++ [bB]), bW, (n + 1), dd, jJ) _ ⟨by omega, hG, ka, jX, dg, jY, by omega, k7, k5, k8, k9, k6⟩ (by show (Q : Int).toNat - (k + 1) < (Q : Int).toNat - k; omega) a (ha.kp [0, 2, 3, 36, 37]))
 have S : (Q : Int).toNat - k = 0 := by omega
 rw [S, qbY] at hG; refine qo (eS (qf (qe (nS ?_)))); refine ysr <| yp 4 [] (.l (hB.c 0) .z) ?_; obtain ⟨W, ly, bC⟩ : ∃ x s', qaD 40 s = (x, s') := ⟨_, _, rfl⟩
 refine yo (yQ (qaO (most := 40) hR bC (by decide)) ?_); rintro kb ⟨kc, aG⟩; have kd : Ch (srB sr rv) w kb := zt a2 aG (fun _ _ h => .inr h); have ke := hB.ch aG hS.ne; have kf := a1.ch aG (fun (h : d = rv) => by have := f; have := hS.rd.lt; omega); have kg := a0.ch aG (fun (h : g = rv) => by have := A; have := hS.rd.lt; omega); have kh := hO.ch aG (fun b e (h : b = rv) => by have := y b e; have := hS.rd.lt; omega); have lz := qbQ bC (by decide); refine yq 6 <| yo (yT [iX I, uX (mkU (qH v)).b0, uX (mkU (qH v)).b1, uX (mkU (qH v)).b2, iX (mkU (qH v)).n, .string N, .slice (o.map at0) n cap, .string W, iX J] kg fun ki bX aH => ?_); have bY : Ch (srB sr rv) w ki := zt kd aH (fun i hi (h : i = g) => by have := A; omega); have bZ := ke.ch aH (fun (h : sr = g) => by have := A; have := hS.blk.lt; omega); have dh := kf.ch aH (fun (h : d = g) => by have := X.lt; omega); have c0 := kh.ch aH (fun b e (h : b = g) => R b e h); have di := kc.ch aH (fun (h : rv = g) => by have := A; have := hS.rd.lt; omega) (fun (h : D = g) => by have := A; have := hS.rd.dlt; omega); refine ye <| ysr <| yp 6 [] (.l (bZ.c 1) .z) <| yw [61] (rY fine) (fun T => ?_) fun T => ?_
 ·refine yp 7 [] (.a (bX.cs 0 9) .z) <| yo (yQ (qmu (PS.mk I (mkU (qH v)) N l W J) (o.map at0) n cap _ (qa3 bY hU (fun h => h.elim (fun (h : qcH = sr) => by have := u_lt; omega) (fun (h : qcH = rv) => by have := u_lt; omega)) (fun h => h.elim (fun (h : qjh = sr) => by have := u_lt; omega) (fun (h : qjh = rv) => by have := u_lt; omega))) (qhB (qd2 _) Z) c0.rd am (by cases ho : o with | none => rw [ho] at hO; exact .inl (hO.2.2.2.1 rfl).1 | some b => exact .inr ⟨b, 0, rfl⟩) (by omega) (by dsimp only; omega)) fun kj aj => ?_); have kk : Ch (srB sr rv) w kj := zt bY aj eZ; have kl := bZ.ch aj id; have km := dh.ch aj id; have kn := c0.ch aj iZ; have ko := di.ch aj id id; have kq := bX.ch aj id; refine yq 11 <| yo (yT [pX rv, .bool (qq (PS.mk I (mkU (qH v)) N l W J))] kl fun kr ks aI => ?_); have kt : Ch (srB sr rv) w kr := zt kk aI (fun _ _ h => .inl h); have ku := km.ch aI (fun (h : d = sr) => by have := f; have := hS.blk.lt; omega); have kv := kn.ch aI (fun b e (h : b = sr) => by have := y b e; have := hS.blk.lt; omega); have kw := ko.ch aI (fun h => hS.ne h.symm) (fun h => hS.nd h.symm); have kx := kq.ch aI (fun (h : g = sr) => by have := A; have := hS.blk.lt; omega); refine ye <| ysr <| yp 1 [] (.a (kx.cs 0 9) .z) <| yo (yT [iX I, uX (mkU (qH v)).b0, uX (mkU (qH v)).b1, uX (mkU (qH v)).b2, iX (mkU (qH v)).n, .string N, .slice (o.map at0) n cap, .string W, iX J] ku fun ky kz bD => ?_); have kA : Ch (srB sr rv) w ky := zt kt bD (fun i hi (h : i = d) => by have := f; omega)
  have kB := kv.ch bD (fun b e (h : b = d) => K b e h); have kC := kw.ch bD (fun (h : rv = d) => by have := f; have := hS.rd.lt; omega) (fun (h : D = d) => by have := f; have := hS.rd.dlt; omega); have kD := ks.ch bD (fun (h : sr = d) => by have := f; have := hS.blk.lt; omega); refine ye <| qd (qbW (.agg #[iX I, uX (mkU (qH v)).b0, uX (mkU (qH v)).b1, uX (mkU (qH v)).b2, iX (mkU (qH v)).n, .string N, .slice (o.map at0) n cap, .string W, iX J]) (.a (kz.cs 0 9) .z) ?_); rw [qc8 bn bo br bv bz hG.symm bC] at hP; simp only [Prod.mk.injEq] at hP; obtain ⟨rfl, rfl, rfl⟩ := hP; have kE : (qq (PS.mk I (mkU (qH v)) N l W J)) = (fine && qq (PS.mk I (mkU (qH v)) N l W J)) := by rw [T]; rfl
  exact ⟨o, n, cap, rfl, kB, y, ⟨by rw [← kE]; exact kD, kC, hS.ne, hS.nd⟩, kA⟩
 refine yq 11 <| yo (yT [pX rv, .bool false] bZ fun kF kG aJ => ?_); have kH : Ch (srB sr rv) w kF := zt bY aJ (fun _ _ h => .inl h); have kI := dh.ch aJ (fun (h : d = sr) => by have := f; have := hS.blk.lt; omega); have kJ := c0.ch aJ (fun b e (h : b = sr) => by have := y b e; have := hS.blk.lt; omega); have kK := di.ch aJ (fun h => hS.ne h.symm) (fun h => hS.nd h.symm); have kL := bX.ch aJ (fun (h : g = sr) => by have := A; have := hS.blk.lt; omega); refine ye <| ysr <| yp 1 [] (.a (kL.cs 0 9) .z) <| yo (yT [iX I, uX (mkU (qH v)).b0, uX (mkU (qH v)).b1, uX (mkU (qH v)).b2, iX (mkU (qH v)).n, .string N, .slice (o.map at0) n cap, .string W, iX J] kI fun kM kN bE => ?_); have kO : Ch (srB sr rv) w kM := zt kH bE (fun i hi (h : i = d) => by have := f; omega); have kP := kJ.ch bE (fun b e (h : b = d) => K b e h); have kQ := kK.ch bE (fun (h : rv = d) => by have := f; have := hS.rd.lt; omega) (fun (h : D = d) => by have := f; have := hS.rd.dlt; omega); have kR := kG.ch bE (fun (h : sr = d) => by have := f; have := hS.blk.lt; omega); refine ye <| qd (qbW (.agg #[iX I, uX (mkU (qH v)).b0, uX (mkU (qH v)).b1, uX (mkU (qH v)).b2, iX (mkU (qH v)).n, .string N, .slice (o.map at0) n cap, .string W, iX J]) (.a (kN.cs 0 9) .z) ?_); rw [qc8 bn bo br bv bz hG.symm bC] at hP; simp only [Prod.mk.injEq] at hP; obtain ⟨rfl, rfl, rfl⟩ := hP; have kS : false = (fine && qq (PS.mk I (mkU (qH v)) N l W J)) := by rw [T]; rfl
 exact ⟨o, n, cap, rfl, kP, y, ⟨by rw [← kS]; exact kR, kQ, hS.ne, hS.nd⟩, kO⟩
theorem qmw (k : IntKind) (hk : k = .i64 ∨ k = .u64) {x : Int} (h0 : 0 ≤ x) (h1 : x < 9223372036854775808) (i : Nat) (hi : i < 64) : ((ql .and k (Int.fdiv x (2 ^ min ((i : Nat) : Int).toNat (IntKind.bits k))) 1 : Int) == 1) = qdA x.toNat i := by
 have := bit_eq k hk (n := x.toNat) (i := i) (by omega) hi; rwa [Int.toNat_of_nonneg h0] at this
theorem i63 {x : Int} (h : x ≤ 9223372036854775807) : x < 9223372036854775808 := by omega
theorem qd8 {x : Int} (h0 : 0 ≤ x) (h1 : x < 9223372036854775808) (I : Int) (i : Nat) (hi : i < 64) (hI : I = ((i : Nat) : Int)) : ((ql .and .i64 (Int.fdiv x (2 ^ min I.toNat (IntKind.bits .i64))) 1 : Int) == 1) = qdA x.toNat i := by
 subst hI; exact qmw .i64 (.inl rfl) h0 h1 i hi
theorem qkC (tb : Nat) : qgV tb 0 = qgA 7 := by funext i; simp [qgV]
def qeB (w h top bot n tb : Int) (k : Nat) : TS := { qeA w h top bot n tb with tabs := qgV tb.toNat k }
theorem TermIn.eqT {w : World} {t g o : Nat} {ba : Option Addr} {bn bc : Nat} {pa : Option Addr} {pn pc : Nat} {T T' : TS} {F F1 F2 FB FP : Nat → Prop} (h : TermIn w t g o ba bn bc pa pn pc T F F1 F2 FB FP) (e : T = T') : TermIn w t g o ba bn bc pa pn pc T' F F1 F2 FB FP := e ▸ h
def flK (w h top bot n : Int) (k : Nat) : TS := { qaa zeroT w h with top := top, bot := bot, wrap := if 0 < k then qdA n.toNat 0 else true, origin := if 1 < k then qdA n.toNat 1 else false, insert := if 2 < k then qdA n.toNat 2 else false, hidden := if 3 < k then qdA n.toNat 3 else false, alt := if 4 < k then qdA n.toNat 4 else false, draw0 := if 5 < k then qdA n.toNat 5 else false, draw1 := if 6 < k then qdA n.toNat 6 else false, shift := if 7 < k then qdA n.toNat 7 else false }
theorem flK_end (w h top bot n tb : Int) : flK w h top bot n 8 = qeB w h top bot n tb 0 := by
 unfold qeB; rw [qkC]; rfl
theorem qkD {w h top bot n tb : Int} {k : Nat} {v : Bool} (hv : v = qdA tb.toNat k) : ({ qeB w h top bot n tb k with tabs := fun i => if i = ((k : Nat) : Int).toNat then v else (qeB w h top bot n tb k).tabs i } : TS) = qeB w h top bot n tb (k + 1) := by
 have : (fun i => if i = ((k : Nat) : Int).toNat then v else qgV tb.toNat k i) = qgV tb.toNat (k + 1) := by
  funext i; rw [Int.toNat_natCast, hv]; unfold qgV; by_cases h : i = k
  ·subst h; rw [if_pos rfl, if_pos (Nat.lt_succ_self i)]
  rw [if_neg h]; by_cases a : i < k
  ·rw [if_pos a, if_pos (by omega)]
  rw [if_neg a, if_neg (by omega)]
 show ({ qeA w h top bot n tb with tabs := fun i => if i = ((k : Nat) : Int).toNat then v else qgV tb.toNat k i } : TS) = _; rw [this]; rfl
set_option maxHeartbeats 4000000 in
theorem qmx {sr rv D : Nat} {s0 s1 : RS} {ot : Option TS} {w : World} (hS : SrIn w sr rv D true s0) (hT : LT w) (hr7 : gTop ≤ rv) (hs7 : gTop ≤ sr) (hH : qgW s0 = (ot, s1)) : Calls Tryz.prog 32 [pX sr].toArray w fun e w' =>
 ∃ v, e = .returned v ∧ SrIn w' sr rv D true s1 ∧ Ch (srB sr rv) w w' ∧ ((ot = none ∧ v = .pointer none) ∨ ∃ t T, ot = some T ∧ v = pX t ∧ TermAt w' t T (fun b => w.heap.size ≤ b ∧ b < w'.heap.size)) := by
 refine yA Tryz.func32 rfl <| yx 1 <| ys <| qW (· = rv) [9] (by kernel_rfl) (fun aR cV Z => ?_); have aS : Ch (srB sr rv) w aR := zt (Ch.refl (srB sr rv) w) Z eZ; have a0 := hS.blk.ch Z id; have aT := hS.rd.ch Z id id; refine ydC [0, 1, 2, 3, 5, 6, 7, 8] [] (fun u hu => (.l (qg hu (a0.c 0) hS.ne) (.l (qg hu (a0.c 0) hS.ne) .z))) ?_; obtain ⟨j, al, I⟩ : ∃ x s', qK (61) s0 = (x, s') := ⟨_, _, rfl⟩
 have am := qJ (lim := 61) (s := s0); rw [I] at am; dsimp only at am; refine yH 4 (yQ (qY (lim := 61) aT I (by omega)) ?_); rintro aU ⟨aV, a1⟩; have aW : Ch (srB sr rv) w aU := zt aS a1 (fun _ _ h => .inr h); have aX := a0.ch a1 hS.ne; refine qm a1 iZ ?_; obtain ⟨f, an, J⟩ : ∃ x s', qK (61) al = (x, s') := ⟨_, _, rfl⟩
 have ao := qJ (lim := 61) (s := al); rw [J] at ao; dsimp only at ao; refine yK 9 (yQ (qY (lim := 61) aV J (by omega)) ?_); rintro aY ⟨aZ, ap⟩; have b0 : Ch (srB sr rv) w aY := zt aW ap (fun _ _ h => .inr h); have b1 := aX.ch ap hS.ne; refine q9 <| yd [10, 11] [] .z <| yDe (nS ?_); refine ys <| qW (· = rv) [13] (by kernel_rfl) (fun b2 cW a2 => ?_); have b3 : Ch (srB sr rv) w b2 := zt b0 a2 eZ; have a3 := b1.ch a2 id; have b4 := aZ.ch a2 id id; refine ydC [0, 1, 2, 3, 4, 5, 7, 8, 9, 10, 11, 12] [] (fun u hu => (.l (qg hu (a3.c 0) hS.ne) (.q6 (f + 1) (.l (qg hu (a3.c 0) hS.ne) (.q6 (f + 1) .z))))) ?_; obtain ⟨m, aq, K⟩ : ∃ x s', qK ((f + 1)) an = (x, s') := ⟨_, _, rfl⟩
 have ar := qJ (lim := (f + 1)) (s := an); rw [K] at ar; dsimp only at ar; refine yH 6 (yQ (qY (lim := (f + 1)) b4 K (by omega)) ?_); rintro b5 ⟨b6, a4⟩; have b7 : Ch (srB sr rv) w b5 := zt b3 a4 (fun _ _ h => .inr h); have b8 := a3.ch a4 hS.ne; refine qm a4 iZ ?_; obtain ⟨n, au, L⟩ : ∃ x s', qK ((f + 1)) aq = (x, s') := ⟨_, _, rfl⟩
 have av := qJ (lim := (f + 1)) (s := aq); rw [L] at av; dsimp only at av; refine yK 13 (yQ (qY (lim := (f + 1)) b6 L (by omega)) ?_); rintro b9 ⟨bb, aw⟩; have bd : Ch (srB sr rv) w b9 := zt b7 aw (fun _ _ h => .inr h); have bf := b8.ch aw hS.ne; refine q9 <| yd [14, 15] [] .z <| yDe (nS ?_); refine ys <| qW (· = rv) [9] (by kernel_rfl) (fun bg cX a5 => ?_); have bh : Ch (srB sr rv) w bg := zt bd a5 eZ; have a6 := bf.ch a5 id; have bi := bb.ch a5 id id; refine ydC [0, 1, 2, 3, 5, 6, 7, 8] [] (fun u hu => (.l (qg hu (a6.c 0) hS.ne) (.l (qg hu (a6.c 0) hS.ne) .z))) ?_; obtain ⟨d, ax, M⟩ : ∃ x s', qK (256) au = (x, s') := ⟨_, _, rfl⟩
 have r := qJ (lim := 256) (s := au); rw [M] at r; dsimp only at r; refine yH 4 (yQ (qY (lim := 256) bi M (by omega)) ?_); rintro bj ⟨bk, a7⟩; have bl : Ch (srB sr rv) w bj := zt bh a7 (fun _ _ h => .inr h); have bm := a6.ch a7 hS.ne; refine qm a7 iZ ?_; obtain ⟨y, a8, N⟩ : ∃ x s', qK (1152921504606846976) ax = (x, s') := ⟨_, _, rfl⟩
 have U := qJ (lim := 1152921504606846976) (s := ax); rw [N] at U; dsimp only at U; refine yK 9 (yQ (qY (lim := 1152921504606846976) bk N (by omega)) ?_); rintro bo ⟨ay, az⟩; have bp : Ch (srB sr rv) w bo := zt bl az (fun _ _ h => .inr h); have aA := bm.ch az hS.ne; refine q9 <| yd (uL 10 3) [10] (.p (q := InR .u64 y) (qap (by omega) (by omega)) .z) <| yDe (nS ?_); refine ys <| ysr <| yp 4 [] (.l (aA.c 0) .z) <| yo (yQ (qjA ay) fun V a9 => ?_); have F : Ch (srB sr rv) w V := zt bp a9 eZ; have O := aA.ch a9 id; have P := ay.ch a9 id id; refine yq 7 <| yw [55] (rN (rY a8.isSome)) (fun aa => ?_) fun aa => ?_
 ·have bq := aa; refine yz 19 <| yct <| yx 1 <| qd (rS (yR1 (.pointer none) ?_)); rw [qcE I J K L M N] at hH; rw [if_pos (.inl bq)] at hH; simp only [Prod.mk.injEq] at hH; obtain ⟨rfl, rfl⟩ := hH; exact ⟨_, rfl, ⟨O, P, hS.ne, hS.nd⟩, F, .inl ⟨rfl, rfl⟩⟩
 have br := aa; refine yq 11 <| yw [59] (rL j 1) (fun ab => ?_) fun ab => ?_
 ·have cY := ab; refine yz 19 <| yct <| yx 1 <| qd (rS (yR1 (.pointer none) ?_)); rw [qcE I J K L M N] at hH; rw [if_pos (.inr (.inl (by omega)))] at hH; simp only [Prod.mk.injEq] at hH; obtain ⟨rfl, rfl⟩ := hH; exact ⟨_, rfl, ⟨O, P, hS.ne, hS.nd⟩, F, .inl ⟨rfl, rfl⟩⟩
 have cZ := ab; refine yq 15 <| yw [63] (rL f 1) (fun ac => ?_) fun ac => ?_
 ·have d0 := ac; refine yz 19 <| yct <| yx 1 <| qd (rS (yR1 (.pointer none) ?_)); rw [qcE I J K L M N] at hH; rw [if_pos (.inr (.inr (.inl (by omega))))] at hH; simp only [Prod.mk.injEq] at hH; obtain ⟨rfl, rfl⟩ := hH; exact ⟨_, rfl, ⟨O, P, hS.ne, hS.nd⟩, F, .inl ⟨rfl, rfl⟩⟩
 have d1 := ac; refine yz 19 <| yc (rM n m) (fun ad => ?_) fun ad => ?_
 ·have d2 := ad; refine yx 1 <| qd (rS (yR1 (.pointer none) ?_)); rw [qcE I J K L M N] at hH; rw [if_pos (.inr (.inr (.inr (by omega))))] at hH; simp only [Prod.mk.injEq] at hH; obtain ⟨rfl, rfl⟩ := hH; exact ⟨_, rfl, ⟨O, P, hS.ne, hS.nd⟩, F, .inl ⟨rfl, rfl⟩⟩
 have d3 := ad; refine yk <| ysr <| yq 2 <| yo (yC (qgL j f _ (qw F hT (fun b h => h.elim (fun (h : b = sr) => by omega) (fun (h : b = rv) => by omega))) (by have := hS.rd.lt; have := zs F; omega)) ?_); rintro _ C ⟨t, rfl, bs, ae⟩; refine ⟨_, rfl, ?_⟩; have d4 : gTop ≤ w.heap.size := by have := hS.rd.lt; omega
 obtain ⟨g, o, ba, bn, bc, pa, pn, pc, Q, R, FB, FP, hI⟩ := bs; have bt := hI.inF.1.1; have G : w.heap.size ≤ t := Nat.le_trans (zs F) bt; have bu : Ch (srB sr rv) w C := zt F ae eZ; have bv := O.ch ae id; have bw := P.ch ae id id; refine yz 4 <| ysr <| yq 6 <| yo (yS hI.blk fun bx bz bA => ?_); have bB : Ch (· = t) C bx := zt (Ch.refl (· = t) C) bA iZ; have bC : Blk _ t (TS.vals ({ (qaa zeroT j f) with top := m } : TS) g o (.slice ba bn bc) (.slice pa pn pc)) qam := Blk.to bz (by kernel_rfl); refine yq 9 <| yo (yS bC fun bD bE bF => ?_); have bG : Ch (· = t) C bD := zt bB bF iZ; have bH : Blk _ t (TS.vals ({ (qaa zeroT j f) with top := m, bot := n } : TS) g o (.slice ba bn bc) (.slice pa pn pc)) qam := Blk.to bE (by kernel_rfl); refine ye <| ys <| yD [27, 28] fun bI d5 aB => ?_; have aC : Ch (· = t) C bI := zt bG aB eZ; have aD := bH.ch aB id; refine ydT (uL 0 27) [] rfl (fun _ => (.i 0 (2) (.i 1 (2) .z))) <| yK 27 (yN [.pointer none, .pointer none, .pointer none, .pointer none, .pointer none, .pointer none, .pointer none, .pointer none] 105 fun bJ af bK d6 bL aE => ?_); have bM : Ch (· = t) C bJ := zt aC aE eZ; have bN : C.heap.size ≤ af := by rw [bK]; exact zs aC
 have bO := aD.ch aE id; refine q9 <| yK 28 (yT [.pointer (some ⟨t, 88, none⟩), .pointer (some ⟨t, 89, none⟩), .pointer (some ⟨t, 90, none⟩), .pointer (some ⟨t, 91, none⟩), .pointer (some ⟨t, 95, none⟩), .pointer (some ⟨t, 92, none⟩), .pointer (some ⟨t, 93, none⟩), .pointer (some ⟨t, 94, none⟩)] bL fun bP bQ aF => ?_); have aG : Ch (· = t) C bP := zt bM aF (fun i hi (h : i = af) => by have := bN; omega); have bR := bO.ch aF (fun (h : t = af) => by have := aD.lt; omega); refine q9 <| yDe (nS ?_); refine qba ([(8, .int .u64 y), (9, pX t)]) (fun u => TermIn u t g o ba bn bc pa pn pc (qeB j f m n d y 0) (fun b => V.heap.size ≤ b ∧ b < C.heap.size) Q R FB FP ∧ Blk u sr [pX rv, .bool true] tSr ∧ RdrAt u rv D a8 ∧ Ch (srB sr rv) w u) (fun d7 bS => ?_) (fun u138 bT => ?_)
 ·refine ysr <| yp 2 [] (.a (bQ.cs 0 8) .z) <| ye <| q8 ?_; have bU := hI.scalar (T' := ({ (qaa zeroT j f) with top := m, bot := n } : TS)) aG bR rfl rfl rfl rfl; refine qa2 [7, 8, 9, 106, 107] (f' := [(7, iX d), (8, .int .u64 y), (9, pX t), (106, .agg #[.pointer (some ⟨t, 88, none⟩), .pointer (some ⟨t, 89, none⟩), .pointer (some ⟨t, 90, none⟩), .pointer (some ⟨t, 91, none⟩), .pointer (some ⟨t, 95, none⟩), .pointer (some ⟨t, 92, none⟩), .pointer (some ⟨t, 93, none⟩), .pointer (some ⟨t, 94, none⟩)]), (107, iX 0)]) <| qy (σ := Nat) (fun k => [(7, iX d), (8, .int .u64 y), (9, pX t), (106, .agg #[.pointer (some ⟨t, 88, none⟩), .pointer (some ⟨t, 89, none⟩), .pointer (some ⟨t, 90, none⟩), .pointer (some ⟨t, 91, none⟩), .pointer (some ⟨t, 95, none⟩), .pointer (some ⟨t, 92, none⟩), .pointer (some ⟨t, 93, none⟩), .pointer (some ⟨t, 94, none⟩)]), (107, iX ((k : Nat) : Int))]) (fun k u => k ≤ 8 ∧ TermIn u t g o ba bn bc pa pn pc (flK j f m n d k) (fun b => V.heap.size ≤ b ∧ b < C.heap.size) Q R FB FP ∧ Ch (· = t) C u) (fun k => 8 - k) 0 rfl ?_ ?_
  ·exact ⟨Nat.zero_le _, TermIn.eqT bU rfl, aG⟩
  intro k B bV d8 H; obtain ⟨d9, A, E⟩ := bV; refine yx 1 <| ys <| yc (rL ((k : Nat) : Int) 8) (fun ag => ?_) fun ag => ?_
  ·have da := ag; rcases (by omega : k = 0 ∨ k = 1 ∨ k = 2 ∨ k = 3 ∨ k = 4 ∨ k = 5 ∨ k = 6 ∨ k = 7) with rfl | rfl | rfl | rfl | rfl | rfl | rfl | rfl
   ·refine yk <| ys <| q8 <| yx 4 <| q7 <| yp 7 [] (.p (q := 0 ≤ (0 : Int)) (by omega) .z) <| yo (yS A.blk fun bW bX bY => ?_); have aH : Ch (· = t) B bW := zt (Ch.refl (· = t) B) bY iZ; have bZ : Blk _ t (TS.vals ({ (flK j f m n d 0) with wrap := (((ql .and .i64 (Int.fdiv d (2 ^ min (0 : Int).toNat (IntKind.bits .i64))) 1) : Int) == 1) } : TS) g o (.slice ba bn bc) (.slice pa pn pc)) qam := Blk.to bX (by kernel_rfl); refine yE (nB (nS ?_)); refine q7 <| yp 2 [] (.q6 1 .z) ?_; have c0 := A.scalar (T' := ({ (flK j f m n d 0) with wrap := (((ql .and .i64 (Int.fdiv d (2 ^ min (0 : Int).toNat (IntKind.bits .i64))) 1) : Int) == 1) } : TS)) aH bZ rfl rfl rfl rfl; refine yE (fun a ha => H 1 _ ⟨by decide, TermIn.eqT c0 (by rw [qd8 r.1 (i63 r.2.1) 0 0 (by decide) rfl]; rfl), zt E aH iZ⟩ (by show 8 - (0 + 1) < 8 - 0; omega) a (ha.kp [7, 8, 9, 106, 107]))
   ·refine yk <| ys <| q8 <| yx 4 <| q7 <| yp 7 [] (.p (q := 0 ≤ (1 : Int)) (by omega) .z) <| yo (yS A.blk fun c1 c2 c3 => ?_); have aI : Ch (· = t) B c1 := zt (Ch.refl (· = t) B) c3 iZ; have c4 : Blk _ t (TS.vals ({ (flK j f m n d 1) with origin := (((ql .and .i64 (Int.fdiv d (2 ^ min (1 : Int).toNat (IntKind.bits .i64))) 1) : Int) == 1) } : TS) g o (.slice ba bn bc) (.slice pa pn pc)) qam := Blk.to c2 (by kernel_rfl); refine yE (nB (nS ?_)); refine q7 <| yp 2 [] (.q6 2 .z) ?_; have c5 := A.scalar (T' := ({ (flK j f m n d 1) with origin := (((ql .and .i64 (Int.fdiv d (2 ^ min (1 : Int).toNat (IntKind.bits .i64))) 1) : Int) == 1) } : TS)) aI c4 rfl rfl rfl rfl; refine yE (fun a ha => H 2 _ ⟨by decide, TermIn.eqT c5 (by rw [qd8 r.1 (i63 r.2.1) 1 1 (by decide) rfl]; rfl), zt E aI iZ⟩ (by show 8 - (1 + 1) < 8 - 1; omega) a (ha.kp [7, 8, 9, 106, 107]))
   ·refine yk <| ys <| q8 <| yx 4 <| q7 <| yp 7 [] (.p (q := 0 ≤ (2 : Int)) (by omega) .z) <| yo (yS A.blk fun c6 c7 c8 => ?_); have aJ : Ch (· = t) B c6 := zt (Ch.refl (· = t) B) c8 iZ; have c9 : Blk _ t (TS.vals ({ (flK j f m n d 2) with insert := (((ql .and .i64 (Int.fdiv d (2 ^ min (2 : Int).toNat (IntKind.bits .i64))) 1) : Int) == 1) } : TS) g o (.slice ba bn bc) (.slice pa pn pc)) qam := Blk.to c7 (by kernel_rfl); refine yE (nB (nS ?_)); refine q7 <| yp 2 [] (.q6 3 .z) ?_; have ca := A.scalar (T' := ({ (flK j f m n d 2) with insert := (((ql .and .i64 (Int.fdiv d (2 ^ min (2 : Int).toNat (IntKind.bits .i64))) 1) : Int) == 1) } : TS)) aJ c9 rfl rfl rfl rfl; refine yE (fun a ha => H 3 _ ⟨by decide, TermIn.eqT ca (by rw [qd8 r.1 (i63 r.2.1) 2 2 (by decide) rfl]; rfl), zt E aJ iZ⟩ (by show 8 - (2 + 1) < 8 - 2; omega) a (ha.kp [7, 8, 9, 106, 107]))
   ·refine yk <| ys <| q8 <| yx 4 <| q7 <| yp 7 [] (.p (q := 0 ≤ (3 : Int)) (by omega) .z) <| yo (yS A.blk fun cb cc cd => ?_); have aK : Ch (· = t) B cb := zt (Ch.refl (· = t) B) cd iZ; have ce : Blk _ t (TS.vals ({ (flK j f m n d 3) with hidden := (((ql .and .i64 (Int.fdiv d (2 ^ min (3 : Int).toNat (IntKind.bits .i64))) 1) : Int) == 1) } : TS) g o (.slice ba bn bc) (.slice pa pn pc)) qam := Blk.to cc (by kernel_rfl); refine yE (nB (nS ?_)); refine q7 <| yp 2 [] (.q6 4 .z) ?_; have cf := A.scalar (T' := ({ (flK j f m n d 3) with hidden := (((ql .and .i64 (Int.fdiv d (2 ^ min (3 : Int).toNat (IntKind.bits .i64))) 1) : Int) == 1) } : TS)) aK ce rfl rfl rfl rfl; refine yE (fun a ha => H 4 _ ⟨by decide, TermIn.eqT cf (by rw [qd8 r.1 (i63 r.2.1) 3 3 (by decide) rfl]; rfl), zt E aK iZ⟩ (by show 8 - (3 + 1) < 8 - 3; omega) a (ha.kp [7, 8, 9, 106, 107]))
   ·refine yk <| ys <| q8 <| yx 4 <| q7 <| yp 7 [] (.p (q := 0 ≤ (4 : Int)) (by omega) .z) <| yo (yS A.blk fun cg ci cj => ?_); have aL : Ch (· = t) B cg := zt (Ch.refl (· = t) B) cj iZ; have ck : Blk _ t (TS.vals ({ (flK j f m n d 4) with alt := (((ql .and .i64 (Int.fdiv d (2 ^ min (4 : Int).toNat (IntKind.bits .i64))) 1) : Int) == 1) } : TS) g o (.slice ba bn bc) (.slice pa pn pc)) qam := Blk.to ci (by kernel_rfl); refine yE (nB (nS ?_)); refine q7 <| yp 2 [] (.q6 5 .z) ?_; have cl := A.scalar (T' := ({ (flK j f m n d 4) with alt := (((ql .and .i64 (Int.fdiv d (2 ^ min (4 : Int).toNat (IntKind.bits .i64))) 1) : Int) == 1) } : TS)) aL ck rfl rfl rfl rfl; refine yE (fun a ha => H 5 _ ⟨by decide, TermIn.eqT cl (by rw [qd8 r.1 (i63 r.2.1) 4 4 (by decide) rfl]; rfl), zt E aL iZ⟩ (by show 8 - (4 + 1) < 8 - 4; omega) a (ha.kp [7, 8, 9, 106, 107]))
   ·refine yk <| ys <| q8 <| yx 4 <| q7 <| yp 7 [] (.p (q := 0 ≤ (5 : Int)) (by omega) .z) <| yo (yS A.blk fun cm cn co => ?_); have aM : Ch (· = t) B cm := zt (Ch.refl (· = t) B) co iZ; have cp : Blk _ t (TS.vals ({ (flK j f m n d 5) with draw0 := (((ql .and .i64 (Int.fdiv d (2 ^ min (5 : Int).toNat (IntKind.bits .i64))) 1) : Int) == 1) } : TS) g o (.slice ba bn bc) (.slice pa pn pc)) qam := Blk.to cn (by kernel_rfl); refine yE (nB (nS ?_)); refine q7 <| yp 2 [] (.q6 6 .z) ?_; have cq := A.scalar (T' := ({ (flK j f m n d 5) with draw0 := (((ql .and .i64 (Int.fdiv d (2 ^ min (5 : Int).toNat (IntKind.bits .i64))) 1) : Int) == 1) } : TS)) aM cp rfl rfl rfl rfl; refine yE (fun a ha => H 6 _ ⟨by decide, TermIn.eqT cq (by rw [qd8 r.1 (i63 r.2.1) 5 5 (by decide) rfl]; rfl), zt E aM iZ⟩ (by show 8 - (5 + 1) < 8 - 5; omega) a (ha.kp [7, 8, 9, 106, 107]))
   ·refine yk <| ys <| q8 <| yx 4 <| q7 <| yp 7 [] (.p (q := 0 ≤ (6 : Int)) (by omega) .z) <| yo (yS A.blk fun cr ct cu => ?_); have aN : Ch (· = t) B cr := zt (Ch.refl (· = t) B) cu iZ; have cv : Blk _ t (TS.vals ({ (flK j f m n d 6) with draw1 := (((ql .and .i64 (Int.fdiv d (2 ^ min (6 : Int).toNat (IntKind.bits .i64))) 1) : Int) == 1) } : TS) g o (.slice ba bn bc) (.slice pa pn pc)) qam := Blk.to ct (by kernel_rfl); refine yE (nB (nS ?_)); refine q7 <| yp 2 [] (.q6 7 .z) ?_; have cw := A.scalar (T' := ({ (flK j f m n d 6) with draw1 := (((ql .and .i64 (Int.fdiv d (2 ^ min (6 : Int).toNat (IntKind.bits .i64))) 1) : Int) == 1) } : TS)) aN cv rfl rfl rfl rfl; refine yE (fun a ha => H 7 _ ⟨by decide, TermIn.eqT cw (by rw [qd8 r.1 (i63 r.2.1) 6 6 (by decide) rfl]; rfl), zt E aN iZ⟩ (by show 8 - (6 + 1) < 8 - 6; omega) a (ha.kp [7, 8, 9, 106, 107]))
   refine yk <| ys <| q8 <| yx 4 <| q7 <| yp 7 [] (.p (q := 0 ≤ (7 : Int)) (by omega) .z) <| yo (yS A.blk fun cx cy cz => ?_); have aO : Ch (· = t) B cx := zt (Ch.refl (· = t) B) cz iZ; have cA : Blk _ t (TS.vals ({ (flK j f m n d 7) with shift := (((ql .and .i64 (Int.fdiv d (2 ^ min (7 : Int).toNat (IntKind.bits .i64))) 1) : Int) == 1) } : TS) g o (.slice ba bn bc) (.slice pa pn pc)) qam := Blk.to cy (by kernel_rfl); refine yE (nB (nS ?_)); refine q7 <| yp 2 [] (.q6 8 .z) ?_; have cB := A.scalar (T' := ({ (flK j f m n d 7) with shift := (((ql .and .i64 (Int.fdiv d (2 ^ min (7 : Int).toNat (IntKind.bits .i64))) 1) : Int) == 1) } : TS)) aO cA rfl rfl rfl rfl; refine yE (fun a ha => H 8 _ ⟨by decide, TermIn.eqT cB (by rw [qd8 r.1 (i63 r.2.1) 7 7 (by decide) rfl]; rfl), zt E aO iZ⟩ (by show 8 - (7 + 1) < 8 - 7; omega) a (ha.kp [7, 8, 9, 106, 107]))
  have db := ag; have cC : k = 8 := by omega
  subst cC; refine qo (eS (qf (qe (fun a ha => bS _ ⟨TermIn.eqT A (flK_end j f m n d y), bv.ch E (fun (h : sr = t) => by have := G; have := hS.blk.lt; omega), bw.ch E (fun (h : rv = t) => by have := G; have := hS.rd.lt; omega) (fun (h : D = t) => by have := G; have := hS.rd.dlt; omega), zt bu E (fun i hi (h : i = t) => by have := G; omega)⟩ a (ha.kp [8, 9])))))
 obtain ⟨cD, cE, cF, cG⟩ := bT; refine ys <| yx 1 <| q8 <| qa2 [8, 9, 119] (f' := [(8, .int .u64 y), (9, pX t), (119, iX 0)]) <| qy (σ := Nat) (fun k => [(8, .int .u64 y), (9, pX t), (119, iX ((k : Nat) : Int))]) (fun k u => k ≤ 60 ∧ TermIn u t g o ba bn bc pa pn pc (qeB j f m n d y k) (fun b => V.heap.size ≤ b ∧ b < C.heap.size) Q R FB FP ∧ Blk u sr [pX rv, .bool true] tSr ∧ RdrAt u rv D a8 ∧ Ch (srB sr rv) w u) (fun k => 60 - k) 0 rfl ?_ ?_
 ·exact ⟨Nat.zero_le _, cD, cE, cF, cG⟩
 intro k W cH dc cI; obtain ⟨hk, X, hB, hR, ah⟩ := cH; refine yx 1 <| ys <| yc (rL ((k : Nat) : Int) 60) (fun ai => ?_) fun ai => ?_
 ·have dd := ai; refine yk <| ys <| q8 <| yx 2 <| yD [10] fun aP de S => ?_; have cJ : Ch (srB sr rv) w aP := zt ah S eZ; have cK : Ch (· = t) W aP := zt (Ch.refl (· = t) W) S eZ; have cL := X.blk.ch S id; have cM := hB.ch S id; have cN := hR.ch S id id; refine yd (uL 0 10) [] (.p (q := 0 ≤ (((k : Nat) : Int) : Int)) (by omega) (.i ((k : Nat) : Int) (60) .z)) <| yK 10 (qa8 (28 + (((k : Nat) : Int) : Int).toNat * 1) [.bool (((ql .and .u64 (Int.fdiv y (2 ^ min (((k : Nat) : Int) : Int).toNat (IntKind.bits .u64))) 1) : Int) == 1)] none (by kernel_rfl) cL (by rw [qbw]; simp only [List.length_cons, List.length_nil]; omega) ?_); intro aj ak Y; replace ak : Blk aj t (TS.vals ({ (qeB j f m n d y k) with tabs := (fun i => if i = (((k : Nat) : Int) : Int).toNat then (((ql .and .u64 (Int.fdiv y (2 ^ min (((k : Nat) : Int) : Int).toNat (IntKind.bits .u64))) 1) : Int) == 1) else (qeB j f m n d y k).tabs i) } : TS) g o (.slice ba bn bc) (.slice pa pn pc)) qam := Blk.to ak (qeJ (qeB j f m n d y k) _ _ _ _ _ (by omega) _); have cO : Ch (srB sr rv) w aj := zt cJ Y (fun i hi (h : i = t) => by have := G; omega); have cP : Ch (· = t) W aj := zt cK Y iZ; have cQ := cM.ch Y (fun (h : sr = t) => by have := G; have := hS.blk.lt; omega); have cR := cN.ch Y (fun (h : rv = t) => by have := G; have := hS.rd.lt; omega) (fun (h : D = t) => by have := G; have := hS.rd.dlt; omega); refine q9 <| yDe (nB (nS ?_)); refine q7 <| yp 2 [] (.q6 (((k : Nat) : Int) + 1) .z) ?_
  have cS := X.scalar (T' := ({ (qeB j f m n d y k) with tabs := (fun i => if i = (((k : Nat) : Int) : Int).toNat then (((ql .and .u64 (Int.fdiv y (2 ^ min (((k : Nat) : Int) : Int).toNat (IntKind.bits .u64))) 1) : Int) == 1) else (qeB j f m n d y k).tabs i) } : TS)) cP ak rfl rfl rfl rfl; have aQ := cS; rw [qkD (qmw .u64 (.inr rfl) U.1 (i63 U.2.1) k (by omega))] at aQ; refine yE (fun a ha => cI (k + 1) _ ⟨by omega, aQ, cQ, cR, cO⟩ (by show 60 - (k + 1) < 60 - k; omega) a (ha.kp [8, 9, 119]))
 have df := ai; refine qo (eS (qf (qe (nS ?_)))); refine yx 2 <| qd (yR1 (pX t) ?_); rw [qcE I J K L M N] at hH; rw [if_neg (by rintro (h | h | h | h); exact absurd (br.symm.trans h) (by decide); omega; omega; omega)] at hH; simp only [Prod.mk.injEq] at hH; obtain ⟨rfl, rfl⟩ := hH; have cT : k = 60 := by omega
 subst cT; have dg := zs F; have cU := X.lt; have dh := zs ah; exact ⟨_, rfl, ⟨hB, hR, hS.ne, hS.nd⟩, ah, .inr ⟨t, _, rfl, rfl, TermAt.mono ⟨g, o, ba, bn, bc, pa, pn, pc, Q, R, FB, FP, (show TermIn _ t g o ba bn bc pa pn pc (qeA j f m n d y) _ Q R FB FP from X)⟩ (fun b hb => ⟨by have := hb.1; omega, by have := cU b hb; have := zs (Ch.refl (· = t) W); omega⟩) (fun b hb => ⟨hb.2, by have := hb.1; omega⟩)⟩⟩
theorem qeP {T : TS} {W H : Int} {s s1 s2 s3 s4 s5 s6 s7 s8 s9 : RS} {a b c : Cur} {ha hb hc f4 f5 f6 f9 : Bool} {d e k : List (List Cel)} {t r : ByteArray} {p : PS}
  (h1 : qh7 W H s = (a, ha, s1)) (h2 : qh7 W H s1 = (b, hb, s2)) (h3 : qh7 W H s2 = (c, hc, s3)) (h4 : qac W H.toNat [] s3 ((ha && hb) && hc) = (d, s4, f4)) (h5 : qac W H.toNat [] s4 f4 = (e, s5, f5)) (h6 : qey s5 f5 = (k, s6, f6))
  (h7 : qaD 40 s6 = (t, s7)) (h8 : qaD 400 s7 = (r, s8)) (h9 : qgU s8 f6 = (p, s9, f9)) :
  qi1 T W H s = if f9 = true ∧ s9 = some [] then some { T with cursor := a, saved := b, away := c, grid := ⟨W, H, d⟩, other := ⟨W, H, e⟩, back := k, title := t, reply := r, parser := p } else none := by
 unfold qi1
 rw [h1]
 dsimp only
 rw [h2]
 dsimp only
 rw [h3]
 dsimp only
 rw [h4]
 dsimp only
 rw [h5]
 dsimp only
 rw [h6]
 dsimp only
 rw [h7]
 dsimp only
 rw [h8]
 dsimp only
 rw [h9]
def qkE (x : RowO) : Row := ⟨x.b.getD 0, x.n, x.cap, x.l⟩
section
variable {w : World} {m n cap : Nat} {o : Option Nat} {rows : List RowO}
theorem RowsO.some (h : RowsO w m rows) {x : RowO} (hx : x ∈ rows) (hl : 0 < x.l.length) : ∃ b, x.b = Option.some b := by
 obtain ⟨h1, h2⟩ := h.line x hx
 exact qcw h1 (by omega)
theorem RowsO.val (h : RowsO w m rows) (hl : ∀ x ∈ rows, 0 < x.l.length) : rows.map RowO.val = (rows.map qkE).map Row.val := by
 rw [List.map_map]
 refine List.map_congr_left fun x hx => ?_
 obtain ⟨b, hb⟩ := h.some hx (hl x hx)
 show Value.slice (x.b.map at0) x.n x.cap = Value.slice (Option.some ⟨x.b.getD 0, 0, none⟩) x.n x.cap
 rw [hb]; rfl
theorem RowsO.each (h : RowsO w m rows) (hl : ∀ x ∈ rows, 0 < x.l.length) : ∀ y ∈ rows.map qkE, (LineAt w y.b y.l y.cap ∧ y.l.length = y.n) ∧ m ≤ y.b ∧ ∃ x ∈ rows, x.b = Option.some y.b := fun y hy => by
 obtain ⟨x, hx, rfl⟩ := List.mem_map.1 hy
 obtain ⟨b, hb⟩ := h.some hx (hl x hx)
 obtain ⟨h1, h2⟩ := h.line x hx
 have e : (qkE x).b = b := by show x.b.getD 0 = b; rw [hb]; rfl
 refine ⟨⟨?_, h2⟩, ?_, x, hx, by rw [e, hb]⟩
 ·unfold LineAt
  rw [e]
  show Own w qcO 6 (Option.some b) x.l.length x.cap (qae x.l)
  rw [h2, ← hb]
  exact h1
 ·rw [e]; exact h.lo x hx b hb
theorem RowsO.nodup (h : RowsO w m rows) (hl : ∀ x ∈ rows, 0 < x.l.length) : ((rows.map qkE).map Row.b).Nodup := by
 rw [List.map_map]
 refine List.pairwise_map.2 (h.nd.imp_of_mem fun {x y} hx hy hxy => ?_)
 obtain ⟨b, hb⟩ := h.some hx (hl x hx)
 obtain ⟨c, hc⟩ := h.some hy (hl y hy)
 show ¬ x.b.getD 0 = y.b.getD 0
 rw [hb, hc]
 intro e
 refine hxy b hb ?_
 rw [hc]
 exact congrArg Option.some e.symm
theorem OutO.grid (h : OutO w m o n cap rows) {g : Nat} {W H : Int} (hg : Blk w g [.int .i64 W, .int .i64 H, .slice (o.map at0) n cap] qfr) (hgm : g < m) (hW : 1 ≤ W ∧ W ≤ 60) (hH : 1 ≤ H ∧ H ≤ 60) (hn : rows.length = H.toNat) (hl : ∀ x ∈ rows, (x.l.length : Int) = W)
  {F : Nat → Prop} (hF : F g ∧ (∀ b, o = some b → F b) ∧ ∀ x ∈ rows, ∀ b, x.b = some b → F b) (hlt : ∀ b, F b → b < w.heap.size) (hhi : ∀ b, F b → gTop ≤ b) : GridAt w g ⟨W, H, rows.map RowO.l⟩ F := by
 have hl0 : ∀ x ∈ rows, 0 < x.l.length := fun x hx => by have := hl x hx; omega
 have hlen := h.len
 obtain ⟨r, rfl⟩ := qcw h.own (by omega)
 have hrm := h.lo r rfl
 have hR := h.rs.each hl0
 refine ⟨r, cap, rows.map qkE, ?_⟩
 exact
 {head := by rw [List.length_map, hlen]; exact hg
  body := by rw [List.length_map, hlen, ← h.rs.val hl0]; exact h.own
  line := fun y hy => (hR y hy).1
  lines := by rw [List.map_map]; rfl
  ok := ⟨hW, hH, by rw [List.length_map]; exact hn, fun l hl' => by
   obtain ⟨x, hx, rfl⟩ := List.mem_map.1 hl'
   have := hl x hx
   show x.l.length = W.toNat
   omega⟩
  gr := by omega
  gb := fun y hy => by
   obtain ⟨_, h2, x, hx, hb⟩ := hR y hy
   exact ⟨by omega, fun e => h.off h.own x hx _ hb (by rw [e])⟩
  nodup := h.rs.nodup hl0
  inF := ⟨hF.1, hF.2.1 r rfl, fun y hy => by obtain ⟨_, _, x, hx, hb⟩ := hR y hy; exact hF.2.2 x hx _ hb⟩
  lt := hlt
  hi := hhi }
theorem OutO.linesAt (h : OutO w m o n cap rows) (hl : ∀ x ∈ rows, 0 < x.l.length) {K : Nat → Prop} (hK : (∀ b, o = some b → K b) ∧ ∀ x ∈ rows, ∀ b, x.b = some b → K b) (hlt : ∀ b, K b → b < w.heap.size) (hhi : ∀ b, K b → gTop ≤ b) : LinesAt w (o.map at0) n (rows.map qkE) K := by
 have hR := h.rs.each hl
 exact
 {rd := by rw [← h.rs.val hl]; exact h.own.rd
  len := by rw [List.length_map]; exact h.len
  line := fun y hy => (hR y hy).1
  inK := fun y hy => by obtain ⟨_, _, x, hx, hb⟩ := hR y hy; exact hK.2 x hx _ hb
  aK := fun ad e => by
   cases o with
   | none => cases e
   | some b => cases e; exact hK.1 b rfl
  lt := hlt
  hi := hhi }
end
structure Under (o : Option Nat) (rows : List RowO) (m : Nat) : Prop where
 o : ∀ b, o = some b → b < m
 r : ∀ x ∈ rows, ∀ b, x.b = some b → b < m
theorem OutO.under {w : World} {m n cap : Nat} {o : Option Nat} {rows : List RowO} (h : OutO w m o n cap rows) : Under o rows w.heap.size :=
 ⟨fun b e => by have := h.own; rw [e] at this; exact this.lt, fun x hx b e => h.rs.lt x hx b e⟩
theorem term_of {w : World} {t g q m0 m1 m2 m3 m4 n1 c1 n2 c2 n3 c3 n4 c4 : Nat} {o1 o2 o3 o4 : Option Nat} {r1 r2 r3 : List RowO} {T : TS} (hd : DecOk T)
  (hb : Blk w t (T.vals g q (.slice (o3.map at0) n3 c3) (.slice (o4.map at0) n4 c4)) qam)
  (hg : Blk w g [.int .i64 T.grid.w, .int .i64 T.grid.h, .slice (o1.map at0) n1 c1] qfr) (hq : Blk w q [.int .i64 T.grid.w, .int .i64 T.grid.h, .slice (o2.map at0) n2 c2] qfr)
  (h1 : OutO w m1 o1 n1 c1 r1) (h2 : OutO w m2 o2 n2 c2 r2) (h3 : OutO w m3 o3 n3 c3 r3) (h4 : Own w tI 1 o4 n4 c4 (T.parser.params.map (Value.int .i64))) (l4 : ∀ b, o4 = some b → m4 ≤ b)
  (e1 : T.grid.lines = r1.map RowO.l) (e2 : T.other.lines = r2.map RowO.l) (e3 : T.back = r3.map RowO.l)
  (k1 : Under o1 r1 m2) (k2 : Under o2 r2 m3) (k3 : Under o3 r3 m4) (h7 : gTop ≤ m0) (ht : m0 ≤ t ∧ t < m1) (hgm : m0 ≤ g ∧ g < m1) (hqm : m0 ≤ q ∧ q < m1) (htg : ¬ t = g) (htq : ¬ t = q) (hgq : ¬ g = q) (hm : m1 ≤ m2 ∧ m2 ≤ m3 ∧ m3 ≤ m4 ∧ m4 ≤ w.heap.size) :
  TermAt w t T (fun b => m0 ≤ b ∧ b < w.heap.size) := by
 obtain ⟨⟨G1w, G1h, G1l⟩, ⟨G2w, G2h, G2l⟩, cu, sa, aw, top, bot, tabs, wr, og, ins, hid, d0, d1, sh, al, ti, bk, pp, re⟩ := T
 have u3 := h3.under
 have hw := hd.w
 have hh := hd.h
 obtain ⟨hw2, hh2⟩ := hd.o
 have g1 := hd.g
 have g2 := hd.g2
 have k0 := hd.k
 dsimp only at *
 subst e1 e2 e3 hw2 hh2
 have a1 : ∀ x ∈ r1, (x.l.length : Int) = G2w := fun x hx => (g1.2 _ (List.mem_map_of_mem hx)).1
 have a2 : ∀ x ∈ r2, (x.l.length : Int) = G2w := fun x hx => (g2.2 _ (List.mem_map_of_mem hx)).1
 have a3 : ∀ x ∈ r3, 0 < x.l.length := fun x hx => (k0.2 _ (List.mem_map_of_mem hx)).1
 have gg1 := h1.grid hg (by omega) hw hh (by have := g1.1; rwa [List.length_map] at this) a1 (F := fun b => b = g ∨ (m1 ≤ b ∧ b < m2)) ⟨.inl rfl, fun b e => .inr ⟨h1.lo b e, k1.o b e⟩, fun x hx b e => .inr ⟨h1.rs.lo x hx b e, k1.r x hx b e⟩⟩ (fun b hb => by omega) (fun b hb => by omega)
 have gg2 := h2.grid hq (by omega) hw hh (by have := g2.1; rwa [List.length_map] at this) a2 (F := fun b => b = q ∨ (m2 ≤ b ∧ b < m3)) ⟨.inl rfl, fun b e => .inr ⟨h2.lo b e, k2.o b e⟩, fun x hx b e => .inr ⟨h2.rs.lo x hx b e, k2.r x hx b e⟩⟩ (fun b hb => by omega) (fun b hb => by omega)
 have gg3 := h3.linesAt a3 (K := fun b => m3 ≤ b ∧ b < m4) ⟨fun b e => ⟨h3.lo b e, k3.o b e⟩, fun x hx b e => ⟨h3.rs.lo x hx b e, k3.r x hx b e⟩⟩ (fun b hb => by omega) (fun b hb => by omega)
 refine ⟨g, q, o3.map at0, n3, c3, o4.map at0, n4, c4, fun b => b = g ∨ (m1 ≤ b ∧ b < m2), fun b => b = q ∨ (m2 ≤ b ∧ b < m3), fun b => m3 ≤ b ∧ b < m4, fun b => m4 ≤ b ∧ b < w.heap.size, ?_⟩
 exact
 {blk := hb
  g1 := gg1
  g2 := gg2
  bk := ⟨_, gg3, by rw [List.map_map]; rfl⟩
  bcap := ⟨h3.own.2.1, fun e => by
   cases o3 with
   | none => exact (h3.own.2.2.2.1 rfl).2
   | some b => cases e⟩
  ps := ⟨h4.rd, by have := h4.1; rwa [List.length_map, Nat.mul_one] at this, (fun e => by
   cases o4 with
   | none => exact (h4.2.2.2.1 rfl).2
   | some b => cases e), fun ad e => by
   cases o4 with
   | none => cases e
   | some b => cases e; exact ⟨l4 b rfl, h4.lt⟩⟩
  pz := ⟨o4, rfl⟩
  bz := by
   cases o3 with
   | none => exact .inl rfl
   | some b => exact .inr ⟨b, 0, rfl⟩
  t1 := fun h => by omega
  t2 := fun h => by omega
  tB := fun h => by omega
  tP := fun h => by omega
  a12 := fun b h1 h2 => by omega
  a1B := fun b h1 h2 => by omega
  a2B := fun b h1 h2 => by omega
  a1P := fun b h1 h2 => by omega
  a2P := fun b h1 h2 => by omega
  inF := ⟨by omega, fun b h => by omega, fun b h => by omega, fun b h => by omega, fun b h => by omega⟩
  lt := fun b h => h.2
  hi := fun b h => by omega }
theorem qmy {s s1 : RS} (h : qgW s = (none, s1)) : qiI s = none := by unfold qiI; rw [h]
theorem qe1 {s s1 : RS} {T : TS} (h : qgW s = (some T, s1)) : qiI s = qi1 T T.grid.w T.grid.h s1 := by unfold qiI; rw [h]
theorem qmz {s s1 : RS} {T : TS} (h : qgW s = (some T, s1)) : T.other = T.grid := by
 unfold qgW at h; dsimp only at h; split at h
 ·cases h
 simp only [Prod.mk.injEq, Option.some.injEq] at h; rw [← h.1]; rfl
set_option maxHeartbeats 4000000 in
theorem qem (D : Nat) (a : Option Addr) (n cap : Nat) (us : List Int) (ot : Option TS) (w : World) (hT : LT w) (h7 : gTop ≤ w.heap.size) (hr : Rd w a (u8s us)) (hl : us.length = n) (hle : n ≤ cap) (hz : (n = 0 ∧ cap = 0) ∨ ∃ o, a = some ⟨D, o, none⟩) (hb : qd1 us) (hn : n ≤ 1000000) (hD : D < w.heap.size) (hX : qiI (some us) = ot) : Calls Tryz.prog 14 [.slice a n cap].toArray w fun e w' =>
 ∃ v x, e = .returned (.tuple #[v, iX x]) ∧ Ch (fun _ => False) w w' ∧ ((ot = none ∧ v = .pointer none ∧ x = 1) ∨ ∃ t T, ot = some T ∧ v = pX t ∧ x = 0 ∧ TermAt w' t T (fun b => w.heap.size ≤ b ∧ b < w'.heap.size)) := by
 refine yA Tryz.func14 rfl <| yx 2 <| ysr <| yq 1 <| yo (yC (of_any D a n cap us _ hr hl hle hz hb hn hD) ?_); rintro _ gp ⟨rv, rfl, gq, aB, bI⟩; refine ⟨_, rfl, ?_⟩; have aV := zu (zm w) bI iZ; have bJ := aB.rs; refine yq 3 <| yo (yN [pX rv, .bool true] 77 fun gr sr bK gs aW aX => ?_); have gu := zn bK aV; have B : ¬ sr = rv := by have := aB.lt; omega
 have L : ¬ sr = D := by omega
 have af := zu aV aX iZ; have aY := aB.ch aX id id; have gv := aW.lt; have gw := aY.lt; refine yz 5 <| ysr <| yq 1 ?_; obtain ⟨gx, s1, hH⟩ : ∃ o s', qgW (some us) = (o, s') := ⟨_, _, rfl⟩
 refine yo (yC (qmx ⟨aW, aY, B, L⟩ (qw (Up.ch af) hT (fun _ h => h.elim)) (by omega) (by omega) hH) ?_); rintro _ d ⟨v0, rfl, aZ, bM, bN⟩; refine ⟨_, rfl, ?_⟩; have b3 := zu af bM (fun i hi h => h.elim (fun (h : i = sr) => by omega) (fun (h : i = rv) => by omega)); rcases bN with ⟨rfl, rfl⟩ | ⟨t, T, rfl, rfl, bO⟩
 ·refine yz 3 <| ys <| yx 2 <| yct <| yx 2 <| qd (rS (yR2 [.pointer none, iX 1] .z ?_)); rw [qmy hH] at hX; exact ⟨_, _, rfl, Up.ch b3, .inl ⟨hX.symm, rfl, rfl⟩⟩
 obtain ⟨g, q, ba, bn, bc, pa, pn, pc, F1, F2, FB, FP, hI⟩ := bO; obtain ⟨r1, gC, gD, ag⟩ := hI.g1; obtain ⟨r2, gF, gG, au⟩ := hI.g2; have gH := hI.inF.1; have gI := hI.inF.2.1 g ag.inF.1; have gJ := hI.inF.2.2.1 q au.inF.1; have C : Df t g := fun e => hI.t1 (e ▸ ag.inF.1); have E : Df t q := fun e => hI.t2 (e ▸ au.inF.1); have aC : Df g q := fun e => hI.a12 g ag.inF.1 (e ▸ au.inF.1); obtain ⟨gK, gL, _⟩ := ag.ok; have j : Df t sr := (show ¬ t = sr by omega)
 have f : Df t rv := (show ¬ t = rv by omega)
 have M : Df g sr := (show ¬ g = sr by omega)
 have m : Df g rv := (show ¬ g = rv by omega)
 have N : Df q sr := (show ¬ q = sr by omega)
 have r : Df q rv := (show ¬ q = rv by omega)
 have av : Df sr rv := B; have gM : w.heap.size ≤ t := by have := zs af; omega
 have gN : w.heap.size ≤ g := by have := zs af; omega
 have gO : w.heap.size ≤ q := by have := zs af; omega
 refine yz 3 <| ys <| yx 2 <| ycf <| yk <| ys <| ys <| yD [9] fun bP gP W => ?_; have b4 := zu b3 W iZ; have bQ : Ch (fun _ => True) d bP := zt (Ch.refl (fun _ => True) d) W (fun _ _ _ => trivial); have aD := aZ.blk.ch W id; have aE := aZ.rd.ch W id id; have aF := hI.blk.ch W id; have bR := ag.head.ch W id; have bS := au.head.ch W id; refine yd [0, 1, 2, 3, 4, 5, 6, 7, 8, 11] [] .z <| yK 9 (yB [.pointer (some ⟨t, 2, none⟩), .pointer (some ⟨t, 10, none⟩), .pointer (some ⟨t, 18, none⟩)] 79 3 fun bT a7 bU gQ b5 X => ?_); have gR := zn bU b4; have bV := zu b4 X iZ; have bW : Ch (fun _ => True) d bT := zt bQ X (fun _ _ _ => trivial); have bX := aD.ch X id; have bY := aE.ch X id id; have bZ := aF.ch X id; have c0 := bR.ch X id; have c1 := bS.ch X id; refine q9 <| yd [10] [] .z <| yDe (nS ?_); refine q8 <| yU 4 (yU1 ?_); refine yx 1 <| ys <| yct <| yk <| ys <| q8 <| ysr <| yp 3 [] (.i 0 (3) (.l (b5.c 0) .z)) <| ye <| yD [16, 18] fun c2 gS O => ?_; have c3 := zu bV O iZ; have c4 : Ch (fun _ => True) d c2 := zt bW O (fun _ _ _ => trivial); have c5 := bX.ch O id; have c6 := bY.ch O id id; have aG := bZ.ch O id; have aH := c0.ch O id; have c7 := c1.ch O id; have c8 := b5.ch O id; refine yd (uL 0 16) [] (.l (aG.c 0) (.l (aH.c 0) (.l (aG.c 0) (.l (aH.c 1) .z)))) ?_; obtain ⟨Y, c9, ca, ah⟩ : ∃ c ok s', qh7 T.grid.w T.grid.h s1 = (c, ok, s') := ⟨_, _, _, rfl⟩
 refine yK 16 (yQ (qdy ⟨c5, c6, B, L⟩ ah (by omega) (by omega)) ?_); rintro cb ⟨b6, a8⟩; have cc := zu c3 a8 (fun i hi h => h.elim (fun (h : i = sr) => by omega) (fun (h : i = rv) => by omega)); have cd : Ch (fun _ => True) d cb := zt c4 a8 (fun _ _ _ => trivial); have ce := aG.ch a8 (fun h => h.elim j f); have cf := aH.ch a8 (fun h => h.elim M m); have cg := c7.ch a8 (fun h => h.elim N r); have ci := c8.ch a8 (fun h => h.elim (fun (h : a7 = sr) => by have := aD.lt; omega) (fun (h : a7 = rv) => by have := aE.lt; omega)); refine q9 <| yd [17] [] .z <| yK 18 (yS ce fun cj ck Z => ?_); have cl := zu cc Z (fun i hi (h : i = t) => by omega); have cm : Ch (fun _ => True) d cj := zt cd Z (fun _ _ _ => trivial); have cn := cf.ch Z (fun h => C h.symm); have co := cg.ch Z (fun h => E h.symm); have b7 := ci.ch Z (fun (h : a7 = t) => by have := aF.lt; omega); have cp := b6.blk.ch Z (fun h => j h.symm); have cq := b6.rd.ch Z (fun h => f h.symm) (fun (h : D = t) => by omega); have cr : Blk _ t (TS.vals ({ T with cursor := Y } : TS) g q (.slice ba bn bc) (.slice pa pn pc)) qam := Blk.to ck (by kernel_rfl); refine q9 <| yDe (nB (nS ?_)); refine q7 <| yp 2 [] (.q6 1 .z) <| yE (nU (yU1 ?_)); refine yx 1 <| ys <| yct <| yk <| ys <| q8 <| ysr <| yp 3 [] (.i 1 (3) (.l (b7.c 1) .z)) <| ye <| yD [16, 18] fun cs gT P => ?_; have ct := zu cl P iZ; have cu : Ch (fun _ => True) d cs := zt cm P (fun _ _ _ => trivial); have aI := cn.ch P id; have cv := co.ch P id; have cw := b7.ch P id
 have cx := cp.ch P id; have cy := cq.ch P id id; have aJ := cr.ch P id; refine yd (uL 0 16) [] (.l (aJ.c 0) (.l (aI.c 0) (.l (aJ.c 0) (.l (aI.c 1) .z)))) ?_; obtain ⟨a9, cz, cA, ai⟩ : ∃ c ok s', qh7 T.grid.w T.grid.h ca = (c, ok, s') := ⟨_, _, _, rfl⟩
 refine yK 16 (yQ (qdy ⟨cx, cy, B, L⟩ ai (by omega) (by omega)) ?_); rintro cB ⟨b8, aa⟩; have cC := zu ct aa (fun i hi h => h.elim (fun (h : i = sr) => by omega) (fun (h : i = rv) => by omega)); have cD : Ch (fun _ => True) d cB := zt cu aa (fun _ _ _ => trivial); have cE := aI.ch aa (fun h => h.elim M m); have cF := cv.ch aa (fun h => h.elim N r); have cG := cw.ch aa (fun h => h.elim (fun (h : a7 = sr) => by have := aD.lt; omega) (fun (h : a7 = rv) => by have := aE.lt; omega)); have cH := aJ.ch aa (fun h => h.elim j f); refine q9 <| yd [17] [] .z <| yK 18 (yS cH fun cI cJ a0 => ?_); have cK := zu cC a0 (fun i hi (h : i = t) => by omega); have cL : Ch (fun _ => True) d cI := zt cD a0 (fun _ _ _ => trivial); have cM := cE.ch a0 (fun h => C h.symm); have cN := cF.ch a0 (fun h => E h.symm); have cO := cG.ch a0 (fun (h : a7 = t) => by have := aF.lt; omega); have cP := b8.blk.ch a0 (fun h => j h.symm); have cQ := b8.rd.ch a0 (fun h => f h.symm) (fun (h : D = t) => by omega); have cR : Blk _ t (TS.vals ({ T with cursor := Y, saved := a9 } : TS) g q (.slice ba bn bc) (.slice pa pn pc)) qam := Blk.to cJ (by kernel_rfl); refine q9 <| yDe (nB (nS ?_)); refine q7 <| yp 2 [] (.q6 2 .z) <| yE (nU (yU1 ?_)); refine yx 1 <| ys <| yct <| yk <| ys <| q8 <| ysr <| yp 3 [] (.i 2 (3) (.l (cO.c 2) .z)) <| ye <| yD [16, 18] fun cS gU a1 => ?_; have cT := zu cK a1 iZ; have cU : Ch (fun _ => True) d cS := zt cL a1 (fun _ _ _ => trivial); have aK := cM.ch a1 id; have cV := cN.ch a1 id
 have cW := cP.ch a1 id; have cX := cQ.ch a1 id id; have aL := cR.ch a1 id; refine yd (uL 0 16) [] (.l (aL.c 0) (.l (aK.c 0) (.l (aL.c 0) (.l (aK.c 1) .z)))) ?_; obtain ⟨aj, cY, cZ, ak⟩ : ∃ c ok s', qh7 T.grid.w T.grid.h cA = (c, ok, s') := ⟨_, _, _, rfl⟩
 refine yK 16 (yQ (qdy ⟨cW, cX, B, L⟩ ak (by omega) (by omega)) ?_); rintro d0 ⟨b9, al⟩; have d1 := zu cT al (fun i hi h => h.elim (fun (h : i = sr) => by omega) (fun (h : i = rv) => by omega)); have d2 : Ch (fun _ => True) d d0 := zt cU al (fun _ _ _ => trivial); have d3 := aK.ch al (fun h => h.elim M m); have d4 := cV.ch al (fun h => h.elim N r); have d5 := aL.ch al (fun h => h.elim j f); refine q9 <| yd [17] [] .z <| yK 18 (yS d5 fun d6 d7 ab => ?_); have d8 := zu d1 ab (fun i hi (h : i = t) => by omega); have d9 : Ch (fun _ => True) d d6 := zt d2 ab (fun _ _ _ => trivial); have da := d3.ch ab (fun h => C h.symm); have db := d4.ch ab (fun h => E h.symm); have dc := b9.blk.ch ab (fun h => j h.symm); have dd := b9.rd.ch ab (fun h => f h.symm) (fun (h : D = t) => by omega); have de : Blk _ t (TS.vals ({ T with cursor := Y, saved := a9, away := aj } : TS) g q (.slice ba bn bc) (.slice pa pn pc)) qam := Blk.to d7 (by kernel_rfl); refine q9 <| yDe (nB (nS ?_)); refine q7 <| yp 2 [] (.q6 3 .z) <| yE (nU (yU1 ?_)); refine yx 1 <| ys <| ycf <| qo (eS (qf (qe (nS ?_)))); refine ys <| ys <| yD [8] fun df gV a2 => ?_; have bb := zu d8 a2 iZ; have dg : Ch (fun _ => True) d df := zt d9 a2 (fun _ _ _ => trivial); have bd := da.ch a2 id; have dh := db.ch a2 id; have bf := dc.ch a2 id; have bg := dd.ch a2 id id; have aM := de.ch a2 id; refine yd [0, 1, 2, 3, 4, 5, 6, 7, 10] [] (.l (aM.c 0) (.l (aM.c 1) .z)) <| yK 8 (yB [pX g, pX q] 42 2 fun di aw dj gW bh a3 => ?_)
 have gX := zn dj bb; have dk := zu bb a3 iZ; have dl : Ch (fun _ => True) d di := zt dg a3 (fun _ _ _ => trivial); have dm := bd.ch a3 id; have dn := dh.ch a3 id; have dp := bf.ch a3 id; have dq := bg.ch a3 id id; have dr := aM.ch a3 id; refine q9 <| yd [9] [] .z <| yDe (nS ?_); refine q8 <| yU 3 (yU1 ?_); refine yx 1 <| ys <| yct <| yk <| ys <| q8 <| ysr <| yp 3 [] (.i 0 (2) (.l (bh.c 0) .z)) <| ye <| yD [16, 19] fun a4 gY Q => ?_; have bi := zu dk Q iZ; have ds : Ch (fun _ => True) d a4 := zt dl Q (fun _ _ _ => trivial); have aN := dm.ch Q id; have dt := dn.ch Q id; have du := dp.ch Q id; have dv := dq.ch Q id id; have aO := dr.ch Q id; have dw := bh.ch Q id; refine yd (uL 0 16) [] (.l (aO.c 0) (.l (aN.c 0) (.l (aO.c 0) (.l (aN.c 1) .z)))) ?_; have gZ : d.heap.size ≤ a4.heap.size := zs ds; obtain ⟨h0, dx, f194, am⟩ : ∃ l s' f', qac T.grid.w (T.grid.h : Int).toNat [] cZ (((true && c9) && cz) && cY) = (l, s', f') := ⟨_, _, _, rfl⟩
 refine yK 16 (yC (qel ⟨du, dv, B, L⟩ (qw (Up.ch bi) hT (fun _ h => h.elim)).tb (by omega) (by omega) (by omega) (by omega) am) ?_); rintro _ dy ⟨bj, bk, bl, h1, rfl, dz, dA, bm, ac⟩; refine ⟨_, rfl, ?_⟩; have dB := zu bi ac (fun i hi h => h.elim (fun (h : i = sr) => by omega) (fun (h : i = rv) => by omega)); have dC : Ch (fun _ => True) a4 dy := zt (Ch.refl (fun _ => True) a4) ac (fun _ _ _ => trivial); have dD := aN.ch ac (fun h => h.elim M m); have dE := dt.ch ac (fun h => h.elim N r); have dF := aO.ch ac (fun h => h.elim j f); have dG := dw.ch ac (fun h => h.elim (fun (h : aw = sr) => by have := bf.lt; omega) (fun (h : aw = rv) => by have := bg.lt; omega)); refine q9 <| yd [17, 18] [] .z <| dkeep [4, 5, 60, 61, 62, 82, 84] (f' := [(4, pX sr), (5, pX t), (60, .slice (some ⟨aw, 0, none⟩) 2 2), (61, iX 2), (62, iX 0), (82, .slice (bj.map at0) bk bl), (84, .pointer (some ⟨g, 2, none⟩))]) <| yK 19 (yT [iX T.grid.w, iX T.grid.h, .slice (bj.map at0) bk bl] dD fun dH dI R => ?_); have dJ := zu dB R (fun i hi (h : i = g) => by omega); have dK : Ch (fun _ => True) a4 dH := zt dC R (fun _ _ _ => trivial); have dL := dE.ch R (fun h => aC h.symm); have dM := dF.ch R C; have dN := dG.ch R (fun (h : aw = g) => by have := bd.lt; omega); have dO := bm.blk.ch R (fun h => M h.symm); have dP := bm.rd.ch R (fun h => m h.symm) (fun (h : D = g) => by omega); have dQ := dz.ch R (fun b hb hl (h : b = g) => by omega); refine q9 <| yDe (nB (nS ?_)); refine q7 <| yp 2 [] (.q6 1 .z) <| yE (nU (yU1 ?_))
 refine yx 1 <| ys <| yct <| yk <| ys <| q8 <| ysr <| yp 3 [] (.i 1 (2) (.l (dN.c 1) .z)) <| ye <| yD [16, 19] fun ad h2 S => ?_; have bo := zu dJ S iZ; have dR : Ch (fun _ => True) a4 ad := zt dK S (fun _ _ _ => trivial); have dS := dL.ch S id; have aP := dM.ch S id; have dT := dO.ch S id; have dU := dP.ch S id id; have bp := dQ.ch S (fun _ _ _ h => h); have aQ := dI.ch S id; refine yd (uL 0 16) [] (.l (aP.c 0) (.l (aQ.c 0) (.l (aP.c 0) (.l (aQ.c 1) .z)))) ?_; have h3 : a4.heap.size ≤ ad.heap.size := zs dR; obtain ⟨h4, dV, f239, an⟩ : ∃ l s' f', qac T.grid.w (T.grid.h : Int).toNat [] dx f194 = (l, s', f') := ⟨_, _, _, rfl⟩
 have dW := bp.under; refine yK 16 (yC (qel ⟨dT, dU, B, L⟩ (qw (Up.ch bo) hT (fun _ h => h.elim)).tb (by omega) (by omega) (by omega) (by omega) an) ?_); rintro _ dX ⟨dY, dZ, e0, h5, rfl, e1, e2, bq, ae⟩; refine ⟨_, rfl, ?_⟩; have e3 := zu bo ae (fun i hi h => h.elim (fun (h : i = sr) => by omega) (fun (h : i = rv) => by omega)); have e4 : Ch (fun _ => True) ad dX := zt (Ch.refl (fun _ => True) ad) ae (fun _ _ _ => trivial); have e5 := dS.ch ae (fun h => h.elim N r); have e6 := aP.ch ae (fun h => h.elim j f); have e7 := bp.ch ae (fun b hb hl h => h.elim (fun (h : b = sr) => by omega) (fun (h : b = rv) => by omega)); have e8 := aQ.ch ae (fun h => h.elim M m); refine q9 <| yd [17, 18] [] .z <| yK 19 (yT [iX T.other.w, iX T.other.h, .slice (dY.map at0) dZ e0] e5 fun k e9 U => ?_); have br := zu e3 U (fun i hi (h : i = q) => by omega); have ea : Ch (fun _ => True) ad k := zt e4 U (fun _ _ _ => trivial); have eb := e6.ch U E; have ec := e7.ch U (fun b hb hl (h : b = q) => by omega); have ed := e8.ch U aC; have ee := bq.blk.ch U (fun h => N h.symm); have ef := bq.rd.ch U (fun h => r h.symm) (fun (h : D = q) => by omega); have bs := e1.ch U (fun b hb hl (h : b = q) => by omega); refine q9 <| yDe (nB (nS ?_)); refine q7 <| yp 2 [] (.q6 2 .z) <| yE (nU (yU1 ?_)); refine yx 1 <| ys <| ycf <| qo (eS (qf (qe (nS ?_)))); refine ysr <| yq 2 ?_; have h6 : ad.heap.size ≤ k.heap.size := zs ea; obtain ⟨ax, eg, f273, ao⟩ : ∃ l s' f', qey dV f239 = (l, s', f') := ⟨_, _, _, rfl⟩
 have eh := bs.under; refine yo (yC (qmv ⟨ee, ef, B, L⟩ (qw (Up.ch br) hT (fun _ h => h.elim)).tb (by omega) (by omega) ao) ?_); rintro _ ei ⟨ay, az, aA, h8, rfl, ej, ek, bt, a5⟩; refine ⟨_, rfl, ?_⟩; have el := zu br a5 (fun i hi h => h.elim (fun (h : i = sr) => by omega) (fun (h : i = rv) => by omega)); have em : Ch (fun _ => True) k ei := zt (Ch.refl (fun _ => True) k) a5 (fun _ _ _ => trivial); have en := eb.ch a5 (fun h => h.elim j f); have eo := ec.ch a5 (fun b hb hl h => h.elim (fun (h : b = sr) => by omega) (fun (h : b = rv) => by omega)); have ep := ed.ch a5 (fun h => h.elim M m); have er := bs.ch a5 (fun b hb hl h => h.elim (fun (h : b = sr) => by omega) (fun (h : b = rv) => by omega)); have es := e9.ch a5 (fun h => h.elim N r); refine yq 5 <| yo (yS en fun et eu F => ?_); have ev := zu el F (fun i hi (h : i = t) => by omega); have ew : Ch (fun _ => True) k et := zt em F (fun _ _ _ => trivial); have ex := eo.ch F (fun b hb hl (h : b = t) => by omega); have ey := ep.ch F (fun h => C h.symm); have ez := er.ch F (fun b hb hl (h : b = t) => by omega); have eA := es.ch F (fun h => E h.symm); have eB := bt.blk.ch F (fun h => j h.symm); have eC := bt.rd.ch F (fun h => f h.symm) (fun (h : D = t) => by omega); have eD := ej.ch F (fun b hb hl (h : b = t) => by omega); have eE : Blk _ t (TS.vals ({ T with back := ax, cursor := Y, saved := a9, away := aj } : TS) g q (.slice (ay.map at0) az aA) (.slice pa pn pc)) qam := Blk.to eu (by kernel_rfl); refine ye <| ys <| qW (· = rv) [11, 14, 17] (by kernel_rfl) (fun eF h9 s => ?_)
 have eG := zu ev s iZ; have eH : Ch (fun _ => True) k eF := zt ew s (fun _ _ _ => trivial); have eI := ex.ch s (fun _ _ _ h => h); have eJ := ey.ch s id; have eK := ez.ch s (fun _ _ _ h => h); have eL := eA.ch s id; have aR := eB.ch s id; have eM := eC.ch s id id; have eN := eD.ch s (fun _ _ _ h => h); have eO := eE.ch s id; refine ydC [0, 1, 2, 3, 4, 5, 7, 8, 9, 10] [] (fun u hu => (.l (qg hu (aR.c 0) av) (.l (qg hu (aR.c 0) av) .z))) ?_; obtain ⟨aS, eP, ap⟩ : ∃ x s', qaD 40 eg = (x, s') := ⟨_, _, rfl⟩
 refine yH 6 (yQ (qaO (most := 40) eM ap (by decide)) ?_); rintro eQ ⟨eR, y⟩; have eT := zu eG y (fun i hi (h : i = rv) => by omega); have eU : Ch (fun _ => True) k eQ := zt eH y (fun _ _ _ => trivial); have eV := eI.ch y (fun b hb hl (h : b = rv) => by omega); have eW := eJ.ch y m; have eX := eK.ch y (fun b hb hl (h : b = rv) => by omega); have eY := eL.ch y r; have eZ := aR.ch y av; have fa := eN.ch y (fun b hb hl (h : b = rv) => by omega); have fb := eO.ch y f; refine qm y iZ ?_; obtain ⟨bu, fc, aq⟩ : ∃ x s', qaD 400 eP = (x, s') := ⟨_, _, rfl⟩
 refine yK 11 (yQ (qaO (most := 400) eR aq (by decide)) ?_); rintro fd ⟨fe, G⟩; have ff := zu eT G (fun i hi (h : i = rv) => by omega); have fg : Ch (fun _ => True) k fd := zt eU G (fun _ _ _ => trivial); have fh := eV.ch G (fun b hb hl (h : b = rv) => by omega); have fi := eW.ch G m; have fj := eX.ch G (fun b hb hl (h : b = rv) => by omega); have fk := eY.ch G r; have fl := eZ.ch G av; have fm := fa.ch G (fun b hb hl (h : b = rv) => by omega); have fn := fb.ch G f; refine q9 <| yd [12, 13] [] .z <| yK 14 (yS fn fun fo fp H => ?_); have fq := zu ff H (fun i hi (h : i = t) => by omega); have fr : Ch (fun _ => True) k fo := zt fg H (fun _ _ _ => trivial); have fs := fh.ch H (fun b hb hl (h : b = t) => by omega); have ft := fi.ch H (fun h => C h.symm); have fu := fj.ch H (fun b hb hl (h : b = t) => by omega); have fv := fk.ch H (fun h => E h.symm); have fw := fl.ch H (fun h => j h.symm); have fx := fm.ch H (fun b hb hl (h : b = t) => by omega); have fy := fe.ch H (fun h => f h.symm) (fun (h : D = t) => by omega); have fz : Blk _ t (TS.vals ({ T with back := ax, cursor := Y, saved := a9, away := aj, title := aS } : TS) g q (.slice (ay.map at0) az aA) (.slice pa pn pc)) qam := Blk.to fp (by kernel_rfl); refine q9 <| yd [15, 16] [] .z <| yK 17 (yS fz fun a6 fA I => ?_); have bv := zu fq I (fun i hi (h : i = t) => by omega); have fB : Ch (fun _ => True) k a6 := zt fr I (fun _ _ _ => trivial); have fC := fs.ch I (fun b hb hl (h : b = t) => by omega); have fD := ft.ch I (fun h => C h.symm)
 have fE := fu.ch I (fun b hb hl (h : b = t) => by omega); have fF := fv.ch I (fun h => E h.symm); have fG := fw.ch I (fun h => j h.symm); have bw := fx.ch I (fun b hb hl (h : b = t) => by omega); have fH := fy.ch I (fun h => f h.symm) (fun (h : D = t) => by omega); have fI : Blk _ t (TS.vals ({ T with back := ax, cursor := Y, saved := a9, away := aj, title := aS, reply := bu } : TS) g q (.slice (ay.map at0) az aA) (.slice pa pn pc)) qam := Blk.to fA (by kernel_rfl); refine q9 <| yDe (nS ?_); refine ysr <| yq 2 ?_; have ha : k.heap.size ≤ a6.heap.size := zs fB; obtain ⟨J, fJ, f392, ar⟩ : ∃ p s' f', qgU fc f273 = (p, s', f') := ⟨_, _, _, rfl⟩
 have fK := bw.under; refine yo (yC (qiQ ⟨fG, fH, B, L⟩ (qw (Up.ch bv) hT (fun _ h => h.elim)).ut (by omega) (by omega) ar) ?_); rintro _ fL ⟨fM, fN, fO, rfl, fP, bx, bz, V⟩; refine ⟨_, rfl, ?_⟩; have fQ := zu bv V (fun i hi h => h.elim (fun (h : i = sr) => by omega) (fun (h : i = rv) => by omega)); have fR : Ch (fun _ => True) a6 fL := zt (Ch.refl (fun _ => True) a6) V (fun _ _ _ => trivial); have fS := fC.ch V (fun b hb hl h => h.elim (fun (h : b = sr) => by omega) (fun (h : b = rv) => by omega)); have fT := fD.ch V (fun h => h.elim M m); have fU := fE.ch V (fun b hb hl h => h.elim (fun (h : b = sr) => by omega) (fun (h : b = rv) => by omega)); have fV := fF.ch V (fun h => h.elim N r); have fW := bw.ch V (fun b hb hl h => h.elim (fun (h : b = sr) => by omega) (fun (h : b = rv) => by omega)); have fX := fI.ch V (fun h => h.elim j f); refine yq 5 <| yo (yS fX fun fY fZ A => ?_); have bA := zu fQ A (fun i hi (h : i = t) => by omega); have g0 : Ch (fun _ => True) a6 fY := zt fR A (fun _ _ _ => trivial); have g3 := fS.ch A (fun b hb hl (h : b = t) => by omega); have g4 := fT.ch A (fun h => C h.symm); have g5 := fU.ch A (fun b hb hl (h : b = t) => by omega); have g6 := fV.ch A (fun h => E h.symm); have g7 := fW.ch A (fun b hb hl (h : b = t) => by omega); have bB := bz.blk.ch A (fun h => j h.symm); have g8 := bz.rd.ch A (fun h => f h.symm) (fun (h : D = t) => by omega); have g9 := fP.ch A (fun b e (h : b = t) => by have := bx b e; omega); have ga : Blk _ t (TS.vals ({ T with back := ax, cursor := Y, saved := a9, away := aj, title := aS, reply := bu, parser := { T.parser with state := J.state, marks := J.marks, text := J.text, within := J.within, utf := ⟨J.utf.b0, J.utf.b1, J.utf.b2, J.utf.n⟩, params := J.params } } : TS) g q (.slice (ay.map at0) az aA) (.slice (fM.map at0) fN fO)) qam := Blk.to fZ (by kernel_rfl)
 refine ye <| ys <| ysr <| yp 6 [] (.l (bB.c 1) .z) <| yw [117] (rN (rY f392)) (fun aT => ?_) fun aT => ?_
 ·have gb := aT; refine yz 13 <| yct <| yx 2 <| qd (rS (yR2 [.pointer none, iX 1] .z ?_)); rw [qe1 hH, qeP ah ai ak am an ao ap aq ar] at hX; rw [if_neg (fun h => absurd (gb.symm.trans h.1) (by decide))] at hX; exact ⟨_, _, rfl, Up.ch bA, .inl ⟨hX.symm, rfl, rfl⟩⟩
 have bC := aT; refine yp 10 [] (.l (bB.c 0) .z) <| yo (yQ (done_any g8) fun bD K => ?_); have bE := zu bA K iZ; have gc : Ch (fun _ => True) a6 bD := zt g0 K (fun _ _ _ => trivial); have gd := g3.ch K (fun _ _ _ h => h); have gf := g4.ch K id; have gg := g5.ch K (fun _ _ _ h => h); have gh := g6.ch K id; have gi := g7.ch K (fun _ _ _ h => h); have gj := g9.ch K iZ; have gk := ga.ch K id; refine yz 13 <| yc (rN (rY (decide (fJ = some [])))) (fun aU => ?_) fun aU => ?_
 ·have gl := aU; refine yx 2 <| qd (rS (yR2 [.pointer none, iX 1] .z ?_)); rw [qe1 hH, qeP ah ai ak am an ao ap aq ar] at hX; rw [if_neg (fun h => of_decide_eq_false gl h.2)] at hX; exact ⟨_, _, rfl, Up.ch bE, .inl ⟨hX.symm, rfl, rfl⟩⟩
 have bF := aU; refine yk <| yx 3 <| qd (yR2 [pX t, iX 0] .z ?_); rw [qe1 hH, qeP ah ai ak am an ao ap aq ar] at hX; have hc : a6.heap.size ≤ bD.heap.size := zs gc; rw [if_pos ⟨bC, of_decide_eq_true bF⟩] at hX; obtain rfl := hX.symm; have bG := qe1 hH; rw [qeP ah ai ak am an ao ap aq ar, if_pos ⟨bC, of_decide_eq_true bF⟩] at bG; obtain ⟨_, _, _, gm⟩ := qi2 bJ bG; have gn := qmz hH; have bH := gh; rw [gn] at bH; exact ⟨_, _, rfl, Up.ch bE, .inr ⟨t, _, rfl, rfl, rfl, term_of gm (Blk.to gk (by kernel_rfl)) gf bH gd gg gi gj bx dA.symm e2.symm ek.symm dW eh fK h7 (by omega) (by omega) (by omega) C E aC (by omega)⟩⟩
theorem qa9 : qE [] = [] := rfl
theorem qa0 (x : Int) (l : List Int) : qE (x :: l) = qZ x.toNat ++ qE l := rfl
theorem qmA {w : World} {b o : Nat} {l : List Bool} (h : Rd w (some ⟨b, o, none⟩) (l.map Value.bool)) {k : Nat} (hk : k < l.length) : w.cell? ⟨b, o + ((k : Nat) : Int).toNat * 1, none⟩ = some (.bool (lb l k)) := by
 rw [Int.toNat_natCast, Nat.mul_one]; refine qbL h k _ ?_; rw [List.getElem?_map, List.getElem?_eq_getElem hk]; simp [lb, List.getD, List.getElem?_eq_getElem hk]
theorem qfk (l : List Bool) (h : l.length ≤ 60) : qG l < 2 ^ 60 := Nat.lt_of_lt_of_le (qbg _ _) (Nat.pow_le_pow_right (by decide) h)
structure CurB (c : Cur) : Prop where
  x : 0 ≤ c.x ∧ c.x ≤ 1000
  y : 0 ≤ c.y ∧ c.y ≤ 1000
  s : qz c.sty = true
structure ParB (p : PS) : Prop where
  st : 0 ≤ p.state ∧ p.state ≤ 1000
  wi : 0 ≤ p.within ∧ p.within ≤ 1000
  u : 0 ≤ p.utf.n ∧ p.utf.n ≤ 3
  ub : qd1 p.utf.pend
  m : p.marks.size ≤ 1000
  n : p.params.length ≤ 1000
  b : ∀ x ∈ p.params, 0 ≤ x ∧ x ≤ 9999
  t : p.text.size ≤ 1000
theorem qeQ {u : US} (h : 0 ≤ u.n ∧ u.n ≤ 3) : u.pend.length = u.n.toNat := by
 unfold US.pend; rw [List.length_take]; simp only [List.length_cons, List.length_nil]; omega
theorem qiR {w : World} {b : Nat} {c : Value} {r : List Value} {T : TypeId} {u : US} (h : Blk w b (c :: uX u.b0 :: uX u.b1 :: uX u.b2 :: r) T) : Rd w (some ⟨b, 1, none⟩) (u.pend.map (Value.int .u8)) := by
 refine Rd.blk h fun j hj => ?_; unfold US.pend at hj ⊢; rw [List.length_map, List.length_take] at hj; rw [List.map_take, List.getElem?_take, if_pos (by omega), Nat.add_comm]; simp only [List.length_cons, List.length_nil] at hj; obtain rfl | rfl | rfl : j = 0 ∨ j = 1 ∨ j = 2 := by omega
 ·rfl
 ·rfl
 rfl
set_option maxHeartbeats 4000000 in
theorem qfl (fb fo kn : Nat) (l : List Bool) (w : World) (hr : Rd w (some ⟨fb, fo, none⟩) (l.map Value.bool)) (hl : l.length = kn) (hn : kn ≤ 60) : Calls Tryz.prog 21 [.slice (some ⟨fb, fo, none⟩) kn kn].toArray w fun e w' => e = .returned (.int .u64 ((qG l : Nat) : Int)) ∧ Ch (fun _ => False) w w' := by
 refine yA Tryz.func21 rfl <| yx 1 <| yx 1 <| ys <| yx 3 <| q8 <| qa2 [3, 6, 7, 8] (f' := [(3, .int .u64 0), (6, .slice (some ⟨fb, fo, none⟩) kn kn), (7, iX ((kn : Nat) : Int)), (8, iX 0)]) <| qy (σ := Nat × Int) (fun ⟨k, x⟩ => [(3, .int .u64 x), (6, .slice (some ⟨fb, fo, none⟩) kn kn), (7, iX ((kn : Nat) : Int)), (8, iX ((k : Nat) : Int))]) (fun ⟨k, x⟩ u => k ≤ kn ∧ x = ((qai (lb l) k : Nat) : Int) ∧ Ch (fun _ => False) w u) (fun ⟨k, x⟩ => kn - k) (0, 0) rfl ?_ ?_
 ·exact ⟨Nat.zero_le _, rfl, Ch.refl _ _⟩
 intro p n f r d; obtain ⟨k, x⟩ := p; obtain ⟨hk, hx, b⟩ := f; have g := qbg (lb l) k; have h := zu (zm w) b iZ; have j := Ch.rd b hr id; refine yx 1 <| ys <| yc (rL ((k : Nat) : Int) ((kn : Nat) : Int)) (fun m => ?_) fun m => ?_
 ·refine yk <| ys <| q8 <| ysr <| yp 5 [] (.i ((k : Nat) : Int) (kn) (.l (o := (fo + (((k : Nat) : Int)).toNat * 1)) (qmA j (k := k) (by omega)) .z)) <| ye <| yx 1 <| yc (rY (lb l k)) (fun c => ?_) fun c => ?_
  ·refine q7 <| yp 5 [] (.p (q := 0 ≤ (((k : Nat) : Int) : Int)) (by omega) .z) <| yE (nB (nS ?_)); refine q7 <| yp 2 [] (.q6 (((k : Nat) : Int) + 1) .z) <| yE (fun a ha => d (k + 1, orF x k) _ ⟨by omega, by rw [hx, orF_eq (by omega) g, qai, c, if_pos rfl], b⟩ (by show kn - (k + 1) < kn - k; omega) a (ha.kp [3, 6, 7, 8]))
  refine qr (nB (nS ?_)); refine q7 <| yp 2 [] (.q6 (((k : Nat) : Int) + 1) .z) <| yE (fun a ha => d (k + 1, x) _ ⟨by omega, by rw [hx, qai, c]; simp, b⟩ (by show kn - (k + 1) < kn - k; omega) a (ha.kp [3, 6, 7, 8]))
 refine qo (eS (qf (qe (nS ?_)))); refine yx 2 <| qd (yR1 (.int .u64 x) ?_); exact ⟨by rw [hx, show k = kn by omega, ← hl]; rfl, Up.ch h⟩
set_option maxHeartbeats 4000000 in
theorem qen {o : Option Nat} {n cap : Nat} {xs : List Int} {w : World} (hO : Own w tU8 1 o n cap (u8s xs)) (c : Cur) (hc : CurB c) (hz : n + 40 ≤ 1000000000) : Calls Tryz.prog 22 [.slice (o.map at0) n cap, .agg #[iX c.x, iX c.y, .bool c.late, .bool c.sty.bold, .bool c.sty.under, .bool c.sty.turned, iX c.sty.fore, iX c.sty.back]].toArray w fun e w' => ∃ o' n' cap', e = .returned (.slice (o'.map at0) n' cap') ∧ Own w' tU8 1 o' n' cap' (u8s (xs ++ qbC c)) ∧ n' ≤ n + 40 ∧ App w w' o o' := by
 have a9 := qdY hc.s; have aa := qfk [c.late] (by simp); have ab := hc.x; have ac := hc.y; refine yA Tryz.func22 rfl <| ysr <| yo (yN [iX c.x, iX c.y, .bool c.late, .bool c.sty.bold, .bool c.sty.under, .bool c.sty.turned, iX c.sty.fore, iX c.sty.back] 46 fun ad J ae af K A => ?_); have f := zv (b := J) hO; have L := hO.ch A iZ; have M := (App.refl w o).step A iZ; refine yz 2 <| ys <| qW (fun b => o = some b) [15] (by kernel_rfl) (fun ag ah t => ?_); have B := L.ch t iZ; have N := M.step t iZ; have g := K.ch t id; refine ydC [0, 1, 2, 3, 4, 5, 6, 7, 8, 13, 14] [3, 6] (fun u hu => (.l (qg hu (g.c 0) (fun h => f _ h rfl)) (.p (q := InR .u64 c.x) (qap (by omega) (by omega)) (.l (qg hu (g.c 1) (fun h => f _ h rfl)) (.p (q := InR .u64 c.y) (qap (by omega) (by omega)) (.l (qg hu (g.c 2) (fun h => f _ h rfl)) (.a (qT hu (g.cs 3 5) (fun h => f _ h rfl)) .z))))))) <| yH 9 (yB [.bool c.late] 4 1 fun ai C aj ak D k => ?_); have E := zv (b := C) B; have O := B.ch k iZ; have P := N.step k iZ; have Q := g.ch k id; refine qm k eZ <| yH 10 (yQ (qfl C 0 1 [c.late] _ (Rd.all (cs := [c.late].map Value.bool) D) rfl (by decide)) fun al i => ?_); have F := O.ch i iZ; have R := P.step i iZ; have S := Q.ch i id; have T := D.ch i id; refine qm i eZ <| yH 11 (yB [.int .u64 c.x, .int .u64 c.y, .int .u64 ((qG [c.late] : Nat) : Int)] 61 3 fun am G an ao m j => ?_); have v := zv (b := G) F; have U := F.ch j iZ; have V := R.step j iZ; have H := S.ch j id
 have I := T.ch j id; refine qm j eZ ?_; refine yH 12 (yC (qa1 o n cap xs G 3 [c.x, c.y, ((qG [c.late] : Nat) : Int)] _ U (Rd.all m) rfl (by intro x hx; simp only [List.mem_cons, List.not_mem_nil, or_false] at hx; rcases hx with rfl | rfl | rfl <;> (constructor <;> omega)) m.lt v (by omega)) ?_); rintro _ ap ⟨aq, ar, au, rfl, W, av, d⟩; refine ⟨_, rfl, ?_⟩; have X := d.apart H.lt f; have Y := d.apart I.lt E; have Z := d.apart m.lt v; have a0 := V.trans d; have a1 := H.ch d.ch (fun h => f _ h rfl); have a2 := I.ch d.ch (fun h => E _ h rfl); have a3 := m.ch d.ch (fun h => v _ h rfl); refine qm d.ch iZ <| yK 15 (yC (qd7 W c.sty hc.s (by omega)) ?_); rintro _ aw ⟨a4, a5, a6, rfl, a7, ax, r⟩; refine ⟨_, rfl, ?_⟩; have ay := r.apart a1.lt X; have az := r.apart a2.lt Y; have aA := r.apart a3.lt Z; have a8 := a0.trans r; refine q9 <| yd [16] [] .z <| yDe (nS ?_); refine qd (yR1 (.slice (a4.map at0) a5 a6) ?_); exact ⟨_, _, _, rfl, by have h := a7; unfold qbC; simp only [qa0, qa9, List.append_assoc, List.append_nil, Int.toNat_natCast] at h ⊢; exact h, by omega, a8⟩
set_option maxHeartbeats 4000000 in
theorem qkF {o : Option Nat} {n cap : Nat} {xs : List Int} {w : World} (hO : Own w tU8 1 o n cap (u8s xs)) (p : PS) (hp : ParB p) (pa : Option Addr) (pn pc : Nat) (hq : Rd w pa (p.params.map (Value.int .i64))) (hql : p.params.length = pn) (hqz : pn = 0 ∨ ∃ b f, pa = some ⟨b, f, none⟩) (hpne : ∀ x, o = some x → ∀ b f, pa = some ⟨b, f, none⟩ → ¬ x = b) (hz : n + 20000 ≤ 1000000000) : Calls Tryz.prog 24 [.slice (o.map at0) n cap, .agg (p.vals (.slice pa pn pc)).toArray].toArray w fun e w' => ∃ o' n' cap', e = .returned (.slice (o'.map at0) n' cap') ∧ Own w' tU8 1 o' n' cap' (u8s (xs ++ qbi p)) ∧ n' ≤ n + 20000 ∧ App w w' o o' := by
 have gq := hp.st; have gr := hp.wi; have gs := hp.u; have gu := hp.m; have gv := hp.n; have gw := hp.t; have gx := qeQ hp.u; have gy := qb5 p.utf.pend; refine yA Tryz.func24 rfl <| ysr <| yo (yN [iX p.state, uX p.utf.b0, uX p.utf.b1, uX p.utf.b2, iX p.utf.n, .string p.marks, .slice pa pn pc, .string p.text, iX p.within] 55 fun wb bx gz gA d8 b8 => ?_); have E := zv (b := bx) hO; have d9 := hO.ch b8 iZ; have da := (App.refl w o).step b8 iZ; refine yz 2 <| ys <| qW (fun b => o = some b) [16] (by kernel_rfl) (fun db gB ax => ?_); have af := d9.ch ax iZ; have b9 := da.step ax iZ; have J := d8.ch ax id; refine ydC [0, 1, 2, 3, 4, 5, 6, 9, 10, 11, 12, 13, 14] [3, 6] (fun u hu => (.l (qg hu (J.c 0) (fun h => E _ h rfl)) (.p (q := InR .u64 p.state) (qap (by omega) (by omega)) (.l (qg hu (J.c 8) (fun h => E _ h rfl)) (.p (q := InR .u64 p.within) (qap (by omega) (by omega)) (.l (qg hu (J.c 4) (fun h => E _ h rfl)) (.j p.utf.n (3) .z))))))) <| qbb 7 15 (by kernel_rfl) (by decide) ?_ ?_
 ·refine qay 7 _ (by kernel_rfl) rfl (yB [.int .u64 p.state, .int .u64 p.within] 61 2 fun dc ay gC gD F ag => ?_); have K := zv (b := ay) af; have ba := af.ch ag iZ; have bb := b9.step ag iZ; have U := J.ch ag id; refine qm ag eZ <| qbb 8 15 (by kernel_rfl) (by decide) ?_ ?_
  ·refine qay 8 _ (by kernel_rfl) rfl (yC (qa1 o n cap xs ay 2 [p.state, p.within] _ ba (Rd.all F) rfl (by intro x hx; simp only [List.mem_cons, List.not_mem_nil, or_false] at hx; rcases hx with rfl | rfl <;> (constructor <;> omega)) F.lt K (by omega)) ?_); rintro _ dd ⟨gE, gF, gG, rfl, de, gH, L⟩; refine ⟨_, rfl, ?_⟩; have bc := L.apart U.lt E; have bd := L.apart F.lt K; have df := bb.trans L; have az := U.ch L.ch (fun h => E _ h rfl); have bf := F.ch L.ch (fun h => K _ h rfl); refine qm L.ch iZ <| yH 15 (qca (some ⟨bx, 1, none⟩) (p.utf.n : Int).toNat 3 p.utf.pend (some 22) (by kernel_rfl) (qiR az) (qeQ hp.u) ?_); refine qm (zr dd) eZ <| yK 16 (yC (qP de (qj p.utf.pend) (by omega)) ?_); rintro _ gI ⟨dg, gJ, gK, rfl, dh, gL, V⟩; refine ⟨_, rfl, ?_⟩; have M := V.apart az.lt bc; have ah := V.apart bf.lt bd; have di := df.trans V; have dj := az.ch V.ch (fun h => bc _ h rfl); have dk := bf.ch V.ch (fun h => bd _ h rfl); refine q9 <| yd [17] [] .z <| yDe (nS ?_); refine ys <| qW (fun b => dg = some b) [9] (by kernel_rfl) (fun gM gN ai => ?_); have W := dj.ch ai id; have aA := dk.ch ai id; have aB := dh.ch ai iZ; have bg := di.step ai iZ; refine ydC [0, 1, 2, 4, 5, 6, 7] [7] (fun u hu => (.l (qg hu (W.c 5) (fun h => M _ h rfl)) (.l (qg hu (W.c 6) (fun h => M _ h rfl)) (.p (q := InR .u64 ((pn : Nat) : Int)) (qap (by omega) (by omega)) .z)))) <| qbb 3 8 (by kernel_rfl) (by decide) ?_ ?_
   ·refine qay 3 _ (by kernel_rfl) rfl (yC (qP aB p.marks (by omega)) ?_); rintro _ gO ⟨dl, dm, dn, rfl, bh, gP, N⟩; refine ⟨_, rfl, ?_⟩; have bi := N.apart W.lt M; have dp := N.apart aA.lt ah; have dq := bg.trans N; have dr := W.ch N.ch (fun h => M _ h rfl); have ds := aA.ch N.ch (fun h => ah _ h rfl); refine qm N.ch iZ <| yH 8 (yB [.int .u64 ((pn : Nat) : Int)] 61 1 fun gQ bj gR gS aC X => ?_); have bk := zv (b := bj) bh; have bl := dr.ch X id; have dt := ds.ch X id; have du := bh.ch X iZ; have dv := dq.step X iZ; refine qm X eZ ?_; refine yK 9 (yC (qa1 dl dm dn (((xs ++ qE [p.state, p.within]) ++ qal (qj p.utf.pend)) ++ qal p.marks) bj 1 [((pn : Nat) : Int)] _ du (Rd.all aC) rfl (by intro x hx; simp only [List.mem_cons, List.not_mem_nil, or_false] at hx; subst hx; constructor <;> omega) aC.lt bk (by omega)) ?_); rintro _ gT ⟨bm, aD, bn, rfl, dw, gU, Y⟩; refine ⟨_, rfl, ?_⟩; have dx := Y.apart bl.lt bi; have gV := Y.apart dt.lt dp; have gW := Y.apart aC.lt bk; have dy := dv.trans Y; have bo := bl.ch Y.ch (fun h => bi _ h rfl); refine q9 <| yd [10] [] .z <| yDe (nS ?_); refine ys <| ysr <| yp 4 [] (.l (bo.c 6) .z) <| ye <| q8 <| qa2 [0, 3, 35, 36, 37] (f' := [(0, .slice (bm.map at0) aD bn), (3, pX bx), (35, .slice pa pn pc), (36, iX ((pn : Nat) : Int)), (37, iX 0)]) <| qy (σ := Nat × Option Nat × Nat × Nat) (fun ⟨k, d, g, r⟩ => [(0, .slice (d.map at0) g r), (3, pX bx), (35, .slice pa pn pc), (36, iX ((pn : Nat) : Int)), (37, iX ((k : Nat) : Int))]) (fun ⟨k, d, g, r⟩ u => k ≤ pn ∧ Own u tU8 1 d g r (u8s (((((xs ++ qE [p.state, p.within]) ++ qal (qj p.utf.pend)) ++ qal p.marks) ++ qE [((pn : Nat) : Int)]) ++ (p.params.take k).flatMap (fun x => qZ x.toNat))) ∧ App w u o d ∧ g ≤ aD + 10 * k ∧ Blk u bx [iX p.state, uX p.utf.b0, uX p.utf.b1, uX p.utf.b2, iX p.utf.n, .string p.marks, .slice pa pn pc, .string p.text, iX p.within] 55 ∧ ∀ b, d = some b → ¬ b = bx) (fun ⟨k, d, g, r⟩ => pn - k) (0, bm, aD, bn) rfl ?_ ?_
    ·exact ⟨Nat.zero_le _, by rw [List.take_zero]; exact (by rw [List.flatMap_nil, List.append_nil]; exact dw), dy, Nat.le_refl _, bo, dx⟩
    intro q gX dz gY dA; obtain ⟨k, d, g, r⟩ := q; obtain ⟨hk, s, v, Z, y, A⟩ := dz; refine yx 1 <| ys <| yc (rL ((k : Nat) : Int) ((pn : Nat) : Int)) (fun B => ?_) fun B => ?_
    ·obtain ⟨pb, po, rfl⟩ := hqz.resolve_left (by omega); have a0 := hp.b _ (qbP (l := p.params) (k := k) (by omega)); refine yk <| ys <| q8 <| ysr <| yp 3 [] (.i ((k : Nat) : Int) (pn) (.l (o := (po + (((k : Nat) : Int)).toNat * 1)) (qb3 (Ch.rd v.ch hq (fun h => hpne _ h _ _ rfl rfl)) (by omega)) .z)) <| ye <| q7 <| yp 3 [2] (.p (q := InR .u64 (p.params.getD k 0)) (qap (by omega) (by omega)) .z) <| yo (yB [.int .u64 (p.params.getD k 0)] 61 1 fun gZ bp h0 h1 aE aF => ?_); have bq := zv (b := bp) s; have dB := s.ch aF iZ; have dC := v.step aF iZ; have br := y.ch aF id; refine yo (yC (qa1 d g r (((((xs ++ qE [p.state, p.within]) ++ qal (qj p.utf.pend)) ++ qal p.marks) ++ qE [((pn : Nat) : Int)]) ++ (p.params.take k).flatMap (fun x => qZ x.toNat)) bp 1 [(p.params.getD k 0)] _ dB (Rd.all aE) rfl (by intro x hx; simp only [List.mem_cons, List.not_mem_nil, or_false] at hx; subst hx; constructor <;> omega) aE.lt bq (by omega)) ?_); rintro _ dD ⟨bs, bt, bu, rfl, dE, h2, aj⟩; refine ⟨_, rfl, ?_⟩; have dF := aj.apart br.lt A; have h3 := aj.apart aE.lt bq; have dG := dC.trans aj; have dH := br.ch aj.ch (fun h => A _ h rfl); refine yq 6 <| yE (nB (nS ?_)); refine q7 <| yp 2 [] (.q6 (((k : Nat) : Int) + 1) .z) ?_; have C : Own dD tU8 1 bs bt bu (u8s (((((xs ++ qE [p.state, p.within]) ++ qal (qj p.utf.pend)) ++ qal p.marks) ++ qE [((pn : Nat) : Int)]) ++ (p.params.take (k + 1)).flatMap (fun x => qZ x.toNat))) := by
      have h := dE; rw [qdw (by omega)]; simp only [qa0, qa9, List.flatMap_append, List.flatMap_cons, List.flatMap_nil, List.append_assoc, List.append_nil] at h ⊢; exact h
     refine yE (fun a ha => dA (k + 1, bs, bt, bu) _ ⟨by omega, C, dG, by omega, dH, dF⟩ (by show pn - (k + 1) < pn - k; omega) a (ha.kp [0, 3, 35, 36, 37]))
    have D : k = p.params.length := by omega
    rw [D, List.take_length] at s; refine qo (eS (qf (qe (nS ?_)))); refine ysr <| yp 3 [] (.l (y.c 7) .z) <| yo (yC (qP s p.text (by omega)) ?_); rintro _ h4 ⟨dI, dJ, dK, rfl, dL, h5, bv⟩; refine ⟨_, rfl, ?_⟩; have h6 := bv.apart y.lt A; have dM := v.trans bv; refine yz 5 <| qd (yR1 (.slice (dI.map at0) dJ dK) ?_); exact ⟨_, _, _, rfl, by have h := dL; unfold qbi; simp only [qa0, qa9, List.append_assoc, List.append_nil, Int.toNat_natCast] at h ⊢; rw [hql]; exact h, by omega, dM⟩
   refine qay 8 _ (by kernel_rfl) rfl (yB [.int .u64 ((pn : Nat) : Int)] 61 1 fun h7 bw h8 h9 bz a1 => ?_); have bA := zv (b := bw) aB; have bB := W.ch a1 id; have bC := aA.ch a1 id; have dN := aB.ch a1 iZ; have dO := bg.step a1 iZ; refine qm a1 eZ <| yH 3 (yC (qP dN p.marks (by omega)) ?_); rintro _ hb ⟨dP, dQ, dR, rfl, dS, hc, G⟩; refine ⟨_, rfl, ?_⟩; have bD := G.apart bB.lt M; have dT := G.apart bC.lt ah; have bE := G.apart bz.lt bA; have dU := dO.trans G; have bF := bB.ch G.ch (fun h => M _ h rfl); have dV := bC.ch G.ch (fun h => ah _ h rfl); have aG := bz.ch G.ch (fun h => bA _ h rfl); refine qm G.ch iZ ?_; refine yK 9 (yC (qa1 dP dQ dR (((xs ++ qE [p.state, p.within]) ++ qal (qj p.utf.pend)) ++ qal p.marks) bw 1 [((pn : Nat) : Int)] _ dS (Rd.all aG) rfl (by intro x hx; simp only [List.mem_cons, List.not_mem_nil, or_false] at hx; subst hx; constructor <;> omega) aG.lt bE (by omega)) ?_); rintro _ hd ⟨bG, aH, bH, rfl, dW, hf, a2⟩; refine ⟨_, rfl, ?_⟩; have dX := a2.apart bF.lt bD; have hg := a2.apart dV.lt dT; have hh := a2.apart aG.lt bE; have dY := dU.trans a2; have bI := bF.ch a2.ch (fun h => bD _ h rfl); refine q9 <| yd [10] [] .z <| yDe (nS ?_); refine ys <| ysr <| yp 4 [] (.l (bI.c 6) .z) <| ye <| q8 <| qa2 [0, 3, 35, 36, 37] (f' := [(0, .slice (bG.map at0) aH bH), (3, pX bx), (35, .slice pa pn pc), (36, iX ((pn : Nat) : Int)), (37, iX 0)]) <| qy (σ := Nat × Option Nat × Nat × Nat) (fun ⟨k, d, g, r⟩ => [(0, .slice (d.map at0) g r), (3, pX bx), (35, .slice pa pn pc), (36, iX ((pn : Nat) : Int)), (37, iX ((k : Nat) : Int))]) (fun ⟨k, d, g, r⟩ u => k ≤ pn ∧ Own u tU8 1 d g r (u8s (((((xs ++ qE [p.state, p.within]) ++ qal (qj p.utf.pend)) ++ qal p.marks) ++ qE [((pn : Nat) : Int)]) ++ (p.params.take k).flatMap (fun x => qZ x.toNat))) ∧ App w u o d ∧ g ≤ aH + 10 * k ∧ Blk u bx [iX p.state, uX p.utf.b0, uX p.utf.b1, uX p.utf.b2, iX p.utf.n, .string p.marks, .slice pa pn pc, .string p.text, iX p.within] 55 ∧ ∀ b, d = some b → ¬ b = bx) (fun ⟨k, d, g, r⟩ => pn - k) (0, bG, aH, bH) rfl ?_ ?_
   ·exact ⟨Nat.zero_le _, by rw [List.take_zero]; exact (by rw [List.flatMap_nil, List.append_nil]; exact dW), dY, Nat.le_refl _, bI, dX⟩
   intro q hi dZ hj e0; obtain ⟨k, d, g, r⟩ := q; obtain ⟨hk, s, v, Z, y, A⟩ := dZ; refine yx 1 <| ys <| yc (rL ((k : Nat) : Int) ((pn : Nat) : Int)) (fun B => ?_) fun B => ?_
   ·obtain ⟨pb, po, rfl⟩ := hqz.resolve_left (by omega); have a0 := hp.b _ (qbP (l := p.params) (k := k) (by omega)); refine yk <| ys <| q8 <| ysr <| yp 3 [] (.i ((k : Nat) : Int) (pn) (.l (o := (po + (((k : Nat) : Int)).toNat * 1)) (qb3 (Ch.rd v.ch hq (fun h => hpne _ h _ _ rfl rfl)) (by omega)) .z)) <| ye <| q7 <| yp 3 [2] (.p (q := InR .u64 (p.params.getD k 0)) (qap (by omega) (by omega)) .z) <| yo (yB [.int .u64 (p.params.getD k 0)] 61 1 fun hl bJ hm hn aI aJ => ?_); have bK := zv (b := bJ) s; have e1 := s.ch aJ iZ; have e2 := v.step aJ iZ; have bL := y.ch aJ id; refine yo (yC (qa1 d g r (((((xs ++ qE [p.state, p.within]) ++ qal (qj p.utf.pend)) ++ qal p.marks) ++ qE [((pn : Nat) : Int)]) ++ (p.params.take k).flatMap (fun x => qZ x.toNat)) bJ 1 [(p.params.getD k 0)] _ e1 (Rd.all aI) rfl (by intro x hx; simp only [List.mem_cons, List.not_mem_nil, or_false] at hx; subst hx; constructor <;> omega) aI.lt bK (by omega)) ?_); rintro _ e3 ⟨bM, bN, bO, rfl, e4, ho, ak⟩; refine ⟨_, rfl, ?_⟩; have e5 := ak.apart bL.lt A; have hr := ak.apart aI.lt bK; have e6 := e2.trans ak; have e7 := bL.ch ak.ch (fun h => A _ h rfl); refine yq 6 <| yE (nB (nS ?_)); refine q7 <| yp 2 [] (.q6 (((k : Nat) : Int) + 1) .z) ?_; have C : Own e3 tU8 1 bM bN bO (u8s (((((xs ++ qE [p.state, p.within]) ++ qal (qj p.utf.pend)) ++ qal p.marks) ++ qE [((pn : Nat) : Int)]) ++ (p.params.take (k + 1)).flatMap (fun x => qZ x.toNat))) := by
     have h := e4; rw [qdw (by omega)]; simp only [qa0, qa9, List.flatMap_append, List.flatMap_cons, List.flatMap_nil, List.append_assoc, List.append_nil] at h ⊢; exact h
    refine yE (fun a ha => e0 (k + 1, bM, bN, bO) _ ⟨by omega, C, e6, by omega, e7, e5⟩ (by show pn - (k + 1) < pn - k; omega) a (ha.kp [0, 3, 35, 36, 37]))
   have D : k = p.params.length := by omega
   rw [D, List.take_length] at s; refine qo (eS (qf (qe (nS ?_)))); refine ysr <| yp 3 [] (.l (y.c 7) .z) <| yo (yC (qP s p.text (by omega)) ?_); rintro _ hs ⟨e8, e9, ea, rfl, eb, ht, bP⟩; refine ⟨_, rfl, ?_⟩; have hv := bP.apart y.lt A; have ec := v.trans bP; refine yz 5 <| qd (yR1 (.slice (e8.map at0) e9 ea) ?_); exact ⟨_, _, _, rfl, by have h := eb; unfold qbi; simp only [qa0, qa9, List.append_assoc, List.append_nil, Int.toNat_natCast] at h ⊢; rw [hql]; exact h, by omega, ec⟩
  refine qay 15 _ (by kernel_rfl) rfl (qca (some ⟨bx, 1, none⟩) (p.utf.n : Int).toNat 3 p.utf.pend (some 22) (by kernel_rfl) (qiR U) (qeQ hp.u) ?_); refine qm (zr dc) eZ ?_; refine yH 8 (yC (qa1 o n cap xs ay 2 [p.state, p.within] _ ba (Rd.all F) rfl (by intro x hx; simp only [List.mem_cons, List.not_mem_nil, or_false] at hx; rcases hx with rfl | rfl <;> (constructor <;> omega)) F.lt K (by omega)) ?_); rintro _ hw ⟨hy, hA, hB, rfl, ed, hC, O⟩; refine ⟨_, rfl, ?_⟩; have bQ := O.apart U.lt E; have bR := O.apart F.lt K; have ee := bb.trans O; have bS := U.ch O.ch (fun h => E _ h rfl); have bT := F.ch O.ch (fun h => K _ h rfl); refine qm O.ch iZ <| yK 16 (yC (qP ed (qj p.utf.pend) (by omega)) ?_); rintro _ hD ⟨ef, hE, hF, rfl, eg, hG, a3⟩; refine ⟨_, rfl, ?_⟩; have P := a3.apart bS.lt bQ; have al := a3.apart bT.lt bR; have eh := ee.trans a3; have ei := bS.ch a3.ch (fun h => bQ _ h rfl); have ej := bT.ch a3.ch (fun h => bR _ h rfl); refine q9 <| yd [17] [] .z <| yDe (nS ?_); refine ys <| qW (fun b => ef = some b) [9] (by kernel_rfl) (fun hH hI am => ?_); have a4 := ei.ch am id; have aK := ej.ch am id; have aL := eg.ch am iZ; have bU := eh.step am iZ; refine ydC [0, 1, 2, 4, 5, 6, 7] [7] (fun u hu => (.l (qg hu (a4.c 5) (fun h => P _ h rfl)) (.l (qg hu (a4.c 6) (fun h => P _ h rfl)) (.p (q := InR .u64 ((pn : Nat) : Int)) (qap (by omega) (by omega)) .z)))) <| qbb 3 8 (by kernel_rfl) (by decide) ?_ ?_
  ·refine qay 3 _ (by kernel_rfl) rfl (yC (qP aL p.marks (by omega)) ?_); rintro _ hJ ⟨ek, el, em, rfl, bV, hK, Q⟩; refine ⟨_, rfl, ?_⟩; have bW := Q.apart a4.lt P; have en := Q.apart aK.lt al; have eo := bU.trans Q; have ep := a4.ch Q.ch (fun h => P _ h rfl); have er := aK.ch Q.ch (fun h => al _ h rfl); refine qm Q.ch iZ <| yH 8 (yB [.int .u64 ((pn : Nat) : Int)] 61 1 fun hL bX hM hN aM a5 => ?_); have bY := zv (b := bX) bV; have bZ := ep.ch a5 id; have es := er.ch a5 id; have et := bV.ch a5 iZ; have eu := eo.step a5 iZ; refine qm a5 eZ ?_; refine yK 9 (yC (qa1 ek el em (((xs ++ qE [p.state, p.within]) ++ qal (qj p.utf.pend)) ++ qal p.marks) bX 1 [((pn : Nat) : Int)] _ et (Rd.all aM) rfl (by intro x hx; simp only [List.mem_cons, List.not_mem_nil, or_false] at hx; subst hx; constructor <;> omega) aM.lt bY (by omega)) ?_); rintro _ hP ⟨c0, aN, c2, rfl, ev, hQ, a6⟩; refine ⟨_, rfl, ?_⟩; have ew := a6.apart bZ.lt bW; have hR := a6.apart es.lt en; have hS := a6.apart aM.lt bY; have ex := eu.trans a6; have c3 := bZ.ch a6.ch (fun h => bW _ h rfl); refine q9 <| yd [10] [] .z <| yDe (nS ?_); refine ys <| ysr <| yp 4 [] (.l (c3.c 6) .z) <| ye <| q8 <| qa2 [0, 3, 35, 36, 37] (f' := [(0, .slice (c0.map at0) aN c2), (3, pX bx), (35, .slice pa pn pc), (36, iX ((pn : Nat) : Int)), (37, iX 0)]) <| qy (σ := Nat × Option Nat × Nat × Nat) (fun ⟨k, d, g, r⟩ => [(0, .slice (d.map at0) g r), (3, pX bx), (35, .slice pa pn pc), (36, iX ((pn : Nat) : Int)), (37, iX ((k : Nat) : Int))]) (fun ⟨k, d, g, r⟩ u => k ≤ pn ∧ Own u tU8 1 d g r (u8s (((((xs ++ qE [p.state, p.within]) ++ qal (qj p.utf.pend)) ++ qal p.marks) ++ qE [((pn : Nat) : Int)]) ++ (p.params.take k).flatMap (fun x => qZ x.toNat))) ∧ App w u o d ∧ g ≤ aN + 10 * k ∧ Blk u bx [iX p.state, uX p.utf.b0, uX p.utf.b1, uX p.utf.b2, iX p.utf.n, .string p.marks, .slice pa pn pc, .string p.text, iX p.within] 55 ∧ ∀ b, d = some b → ¬ b = bx) (fun ⟨k, d, g, r⟩ => pn - k) (0, c0, aN, c2) rfl ?_ ?_
   ·exact ⟨Nat.zero_le _, by rw [List.take_zero]; exact (by rw [List.flatMap_nil, List.append_nil]; exact ev), ex, Nat.le_refl _, c3, ew⟩
   intro q hT ey hU ez; obtain ⟨k, d, g, r⟩ := q; obtain ⟨hk, s, v, Z, y, A⟩ := ey; refine yx 1 <| ys <| yc (rL ((k : Nat) : Int) ((pn : Nat) : Int)) (fun B => ?_) fun B => ?_
   ·obtain ⟨pb, po, rfl⟩ := hqz.resolve_left (by omega); have a0 := hp.b _ (qbP (l := p.params) (k := k) (by omega)); refine yk <| ys <| q8 <| ysr <| yp 3 [] (.i ((k : Nat) : Int) (pn) (.l (o := (po + (((k : Nat) : Int)).toNat * 1)) (qb3 (Ch.rd v.ch hq (fun h => hpne _ h _ _ rfl rfl)) (by omega)) .z)) <| ye <| q7 <| yp 3 [2] (.p (q := InR .u64 (p.params.getD k 0)) (qap (by omega) (by omega)) .z) <| yo (yB [.int .u64 (p.params.getD k 0)] 61 1 fun hV c4 hW hX aO aP => ?_); have c5 := zv (b := c4) s; have eA := s.ch aP iZ; have eB := v.step aP iZ; have c6 := y.ch aP id; refine yo (yC (qa1 d g r (((((xs ++ qE [p.state, p.within]) ++ qal (qj p.utf.pend)) ++ qal p.marks) ++ qE [((pn : Nat) : Int)]) ++ (p.params.take k).flatMap (fun x => qZ x.toNat)) c4 1 [(p.params.getD k 0)] _ eA (Rd.all aO) rfl (by intro x hx; simp only [List.mem_cons, List.not_mem_nil, or_false] at hx; subst hx; constructor <;> omega) aO.lt c5 (by omega)) ?_); rintro _ eC ⟨c7, c8, c9, rfl, eD, hY, an⟩; refine ⟨_, rfl, ?_⟩; have eE := an.apart c6.lt A; have hZ := an.apart aO.lt c5; have eF := eB.trans an; have eG := c6.ch an.ch (fun h => A _ h rfl); refine yq 6 <| yE (nB (nS ?_)); refine q7 <| yp 2 [] (.q6 (((k : Nat) : Int) + 1) .z) ?_; have C : Own eC tU8 1 c7 c8 c9 (u8s (((((xs ++ qE [p.state, p.within]) ++ qal (qj p.utf.pend)) ++ qal p.marks) ++ qE [((pn : Nat) : Int)]) ++ (p.params.take (k + 1)).flatMap (fun x => qZ x.toNat))) := by
     have h := eD; rw [qdw (by omega)]; simp only [qa0, qa9, List.flatMap_append, List.flatMap_cons, List.flatMap_nil, List.append_assoc, List.append_nil] at h ⊢; exact h
    refine yE (fun a ha => ez (k + 1, c7, c8, c9) _ ⟨by omega, C, eF, by omega, eG, eE⟩ (by show pn - (k + 1) < pn - k; omega) a (ha.kp [0, 3, 35, 36, 37]))
   have D : k = p.params.length := by omega
   rw [D, List.take_length] at s; refine qo (eS (qf (qe (nS ?_)))); refine ysr <| yp 3 [] (.l (y.c 7) .z) <| yo (yC (qP s p.text (by omega)) ?_); rintro _ ia ⟨eH, eI, eJ, rfl, eK, ib, ca⟩; refine ⟨_, rfl, ?_⟩; have ic := ca.apart y.lt A; have eL := v.trans ca; refine yz 5 <| qd (yR1 (.slice (eH.map at0) eI eJ) ?_); exact ⟨_, _, _, rfl, by have h := eK; unfold qbi; simp only [qa0, qa9, List.append_assoc, List.append_nil, Int.toNat_natCast] at h ⊢; rw [hql]; exact h, by omega, eL⟩
  refine qay 8 _ (by kernel_rfl) rfl (yB [.int .u64 ((pn : Nat) : Int)] 61 1 fun ie cb ig ih cc a7 => ?_); have cd := zv (b := cb) aL; have ce := a4.ch a7 id; have cf := aK.ch a7 id; have eM := aL.ch a7 iZ; have eN := bU.step a7 iZ; refine qm a7 eZ <| yH 3 (yC (qP eM p.marks (by omega)) ?_); rintro _ ii ⟨eO, eP, eQ, rfl, eR, ij, H⟩; refine ⟨_, rfl, ?_⟩; have cg := H.apart ce.lt P; have eT := H.apart cf.lt al; have ci := H.apart cc.lt cd; have eU := eN.trans H; have cj := ce.ch H.ch (fun h => P _ h rfl); have eV := cf.ch H.ch (fun h => al _ h rfl); have aQ := cc.ch H.ch (fun h => cd _ h rfl); refine qm H.ch iZ ?_; refine yK 9 (yC (qa1 eO eP eQ (((xs ++ qE [p.state, p.within]) ++ qal (qj p.utf.pend)) ++ qal p.marks) cb 1 [((pn : Nat) : Int)] _ eR (Rd.all aQ) rfl (by intro x hx; simp only [List.mem_cons, List.not_mem_nil, or_false] at hx; subst hx; constructor <;> omega) aQ.lt ci (by omega)) ?_); rintro _ ik ⟨ck, aR, cl, rfl, eW, il, a8⟩; refine ⟨_, rfl, ?_⟩; have eX := a8.apart cj.lt cg; have im := a8.apart eV.lt eT; have io := a8.apart aQ.lt ci; have eY := eU.trans a8; have cm := cj.ch a8.ch (fun h => cg _ h rfl); refine q9 <| yd [10] [] .z <| yDe (nS ?_); refine ys <| ysr <| yp 4 [] (.l (cm.c 6) .z) <| ye <| q8 <| qa2 [0, 3, 35, 36, 37] (f' := [(0, .slice (ck.map at0) aR cl), (3, pX bx), (35, .slice pa pn pc), (36, iX ((pn : Nat) : Int)), (37, iX 0)]) <| qy (σ := Nat × Option Nat × Nat × Nat) (fun ⟨k, d, g, r⟩ => [(0, .slice (d.map at0) g r), (3, pX bx), (35, .slice pa pn pc), (36, iX ((pn : Nat) : Int)), (37, iX ((k : Nat) : Int))]) (fun ⟨k, d, g, r⟩ u => k ≤ pn ∧ Own u tU8 1 d g r (u8s (((((xs ++ qE [p.state, p.within]) ++ qal (qj p.utf.pend)) ++ qal p.marks) ++ qE [((pn : Nat) : Int)]) ++ (p.params.take k).flatMap (fun x => qZ x.toNat))) ∧ App w u o d ∧ g ≤ aR + 10 * k ∧ Blk u bx [iX p.state, uX p.utf.b0, uX p.utf.b1, uX p.utf.b2, iX p.utf.n, .string p.marks, .slice pa pn pc, .string p.text, iX p.within] 55 ∧ ∀ b, d = some b → ¬ b = bx) (fun ⟨k, d, g, r⟩ => pn - k) (0, ck, aR, cl) rfl ?_ ?_
  ·exact ⟨Nat.zero_le _, by rw [List.take_zero]; exact (by rw [List.flatMap_nil, List.append_nil]; exact eW), eY, Nat.le_refl _, cm, eX⟩
  intro q ip fa iq fb; obtain ⟨k, d, g, r⟩ := q; obtain ⟨hk, s, v, Z, y, A⟩ := fa; refine yx 1 <| ys <| yc (rL ((k : Nat) : Int) ((pn : Nat) : Int)) (fun B => ?_) fun B => ?_
  ·obtain ⟨pb, po, rfl⟩ := hqz.resolve_left (by omega); have a0 := hp.b _ (qbP (l := p.params) (k := k) (by omega)); refine yk <| ys <| q8 <| ysr <| yp 3 [] (.i ((k : Nat) : Int) (pn) (.l (o := (po + (((k : Nat) : Int)).toNat * 1)) (qb3 (Ch.rd v.ch hq (fun h => hpne _ h _ _ rfl rfl)) (by omega)) .z)) <| ye <| q7 <| yp 3 [2] (.p (q := InR .u64 (p.params.getD k 0)) (qap (by omega) (by omega)) .z) <| yo (yB [.int .u64 (p.params.getD k 0)] 61 1 fun ir cn iu iv aS aT => ?_); have co := zv (b := cn) s; have fc := s.ch aT iZ; have fd := v.step aT iZ; have cp := y.ch aT id; refine yo (yC (qa1 d g r (((((xs ++ qE [p.state, p.within]) ++ qal (qj p.utf.pend)) ++ qal p.marks) ++ qE [((pn : Nat) : Int)]) ++ (p.params.take k).flatMap (fun x => qZ x.toNat)) cn 1 [(p.params.getD k 0)] _ fc (Rd.all aS) rfl (by intro x hx; simp only [List.mem_cons, List.not_mem_nil, or_false] at hx; subst hx; constructor <;> omega) aS.lt co (by omega)) ?_); rintro _ fe ⟨cq, cr, cs, rfl, ff, iw, ao⟩; refine ⟨_, rfl, ?_⟩; have fg := ao.apart cp.lt A; have ix := ao.apart aS.lt co; have fh := fd.trans ao; have fi := cp.ch ao.ch (fun h => A _ h rfl); refine yq 6 <| yE (nB (nS ?_)); refine q7 <| yp 2 [] (.q6 (((k : Nat) : Int) + 1) .z) ?_; have C : Own fe tU8 1 cq cr cs (u8s (((((xs ++ qE [p.state, p.within]) ++ qal (qj p.utf.pend)) ++ qal p.marks) ++ qE [((pn : Nat) : Int)]) ++ (p.params.take (k + 1)).flatMap (fun x => qZ x.toNat))) := by
    have h := ff; rw [qdw (by omega)]; simp only [qa0, qa9, List.flatMap_append, List.flatMap_cons, List.flatMap_nil, List.append_assoc, List.append_nil] at h ⊢; exact h
   refine yE (fun a ha => fb (k + 1, cq, cr, cs) _ ⟨by omega, C, fh, by omega, fi, fg⟩ (by show pn - (k + 1) < pn - k; omega) a (ha.kp [0, 3, 35, 36, 37]))
  have D : k = p.params.length := by omega
  rw [D, List.take_length] at s; refine qo (eS (qf (qe (nS ?_)))); refine ysr <| yp 3 [] (.l (y.c 7) .z) <| yo (yC (qP s p.text (by omega)) ?_); rintro _ iy ⟨fj, fk, fl, rfl, fm, iz, ct⟩; refine ⟨_, rfl, ?_⟩; have iA := ct.apart y.lt A; have fn := v.trans ct; refine yz 5 <| qd (yR1 (.slice (fj.map at0) fk fl) ?_); exact ⟨_, _, _, rfl, by have h := fm; unfold qbi; simp only [qa0, qa9, List.append_assoc, List.append_nil, Int.toNat_natCast] at h ⊢; rw [hql]; exact h, by omega, fn⟩
 refine qay 15 _ (by kernel_rfl) rfl (qca (some ⟨bx, 1, none⟩) (p.utf.n : Int).toNat 3 p.utf.pend (some 22) (by kernel_rfl) (qiR J) (qeQ hp.u) ?_); refine qm (zr db) eZ <| yH 7 (yB [.int .u64 p.state, .int .u64 p.within] 61 2 fun iB cu iC iD ap aq => ?_); have aU := zv (b := cu) af; have fo := af.ch aq iZ; have fp := b9.step aq iZ; have cv := J.ch aq id; refine qm aq eZ ?_; refine yH 8 (yC (qa1 o n cap xs cu 2 [p.state, p.within] _ fo (Rd.all ap) rfl (by intro x hx; simp only [List.mem_cons, List.not_mem_nil, or_false] at hx; rcases hx with rfl | rfl <;> (constructor <;> omega)) ap.lt aU (by omega)) ?_); rintro _ iE ⟨iF, iG, iH, rfl, fq, iI, R⟩; refine ⟨_, rfl, ?_⟩; have cw := R.apart cv.lt E; have cx := R.apart ap.lt aU; have fr := fp.trans R; have cy := cv.ch R.ch (fun h => E _ h rfl); have cz := ap.ch R.ch (fun h => aU _ h rfl); refine qm R.ch iZ <| yK 16 (yC (qP fq (qj p.utf.pend) (by omega)) ?_); rintro _ iJ ⟨fs, iK, iL, rfl, ft, iM, a9⟩; refine ⟨_, rfl, ?_⟩; have S := a9.apart cy.lt cw; have ar := a9.apart cz.lt cx; have fu := fr.trans a9; have fv := cy.ch a9.ch (fun h => cw _ h rfl); have fw := cz.ch a9.ch (fun h => cx _ h rfl); refine q9 <| yd [17] [] .z <| yDe (nS ?_); refine ys <| qW (fun b => fs = some b) [9] (by kernel_rfl) (fun iN iO au => ?_); have aa := fv.ch au id; have aV := fw.ch au id; have aW := ft.ch au iZ; have cA := fu.step au iZ; refine ydC [0, 1, 2, 4, 5, 6, 7] [7] (fun u hu => (.l (qg hu (aa.c 5) (fun h => S _ h rfl)) (.l (qg hu (aa.c 6) (fun h => S _ h rfl)) (.p (q := InR .u64 ((pn : Nat) : Int)) (qap (by omega) (by omega)) .z)))) <| qbb 3 8 (by kernel_rfl) (by decide) ?_ ?_
 ·refine qay 3 _ (by kernel_rfl) rfl (yC (qP aW p.marks (by omega)) ?_); rintro _ iP ⟨fx, fy, fz, rfl, cB, iQ, T⟩; refine ⟨_, rfl, ?_⟩; have cC := T.apart aa.lt S; have fA := T.apart aV.lt ar; have fB := cA.trans T; have fC := aa.ch T.ch (fun h => S _ h rfl); have fD := aV.ch T.ch (fun h => ar _ h rfl); refine qm T.ch iZ <| yH 8 (yB [.int .u64 ((pn : Nat) : Int)] 61 1 fun iR cD iS iT aX ab => ?_); have cE := zv (b := cD) cB; have cF := fC.ch ab id; have fE := fD.ch ab id; have fF := cB.ch ab iZ; have fG := fB.step ab iZ; refine qm ab eZ ?_; refine yK 9 (yC (qa1 fx fy fz (((xs ++ qE [p.state, p.within]) ++ qal (qj p.utf.pend)) ++ qal p.marks) cD 1 [((pn : Nat) : Int)] _ fF (Rd.all aX) rfl (by intro x hx; simp only [List.mem_cons, List.not_mem_nil, or_false] at hx; subst hx; constructor <;> omega) aX.lt cE (by omega)) ?_); rintro _ iU ⟨cG, aY, cH, rfl, fH, iV, ac⟩; refine ⟨_, rfl, ?_⟩; have fI := ac.apart cF.lt cC; have iW := ac.apart fE.lt fA; have iY := ac.apart aX.lt cE; have fJ := fG.trans ac; have cI := cF.ch ac.ch (fun h => cC _ h rfl); refine q9 <| yd [10] [] .z <| yDe (nS ?_); refine ys <| ysr <| yp 4 [] (.l (cI.c 6) .z) <| ye <| q8 <| qa2 [0, 3, 35, 36, 37] (f' := [(0, .slice (cG.map at0) aY cH), (3, pX bx), (35, .slice pa pn pc), (36, iX ((pn : Nat) : Int)), (37, iX 0)]) <| qy (σ := Nat × Option Nat × Nat × Nat) (fun ⟨k, d, g, r⟩ => [(0, .slice (d.map at0) g r), (3, pX bx), (35, .slice pa pn pc), (36, iX ((pn : Nat) : Int)), (37, iX ((k : Nat) : Int))]) (fun ⟨k, d, g, r⟩ u => k ≤ pn ∧ Own u tU8 1 d g r (u8s (((((xs ++ qE [p.state, p.within]) ++ qal (qj p.utf.pend)) ++ qal p.marks) ++ qE [((pn : Nat) : Int)]) ++ (p.params.take k).flatMap (fun x => qZ x.toNat))) ∧ App w u o d ∧ g ≤ aY + 10 * k ∧ Blk u bx [iX p.state, uX p.utf.b0, uX p.utf.b1, uX p.utf.b2, iX p.utf.n, .string p.marks, .slice pa pn pc, .string p.text, iX p.within] 55 ∧ ∀ b, d = some b → ¬ b = bx) (fun ⟨k, d, g, r⟩ => pn - k) (0, cG, aY, cH) rfl ?_ ?_
  ·exact ⟨Nat.zero_le _, by rw [List.take_zero]; exact (by rw [List.flatMap_nil, List.append_nil]; exact fH), fJ, Nat.le_refl _, cI, fI⟩
  intro q j0 fK j1 fL; obtain ⟨k, d, g, r⟩ := q; obtain ⟨hk, s, v, Z, y, A⟩ := fK; refine yx 1 <| ys <| yc (rL ((k : Nat) : Int) ((pn : Nat) : Int)) (fun B => ?_) fun B => ?_
  ·obtain ⟨pb, po, rfl⟩ := hqz.resolve_left (by omega); have a0 := hp.b _ (qbP (l := p.params) (k := k) (by omega)); refine yk <| ys <| q8 <| ysr <| yp 3 [] (.i ((k : Nat) : Int) (pn) (.l (o := (po + (((k : Nat) : Int)).toNat * 1)) (qb3 (Ch.rd v.ch hq (fun h => hpne _ h _ _ rfl rfl)) (by omega)) .z)) <| ye <| q7 <| yp 3 [2] (.p (q := InR .u64 (p.params.getD k 0)) (qap (by omega) (by omega)) .z) <| yo (yB [.int .u64 (p.params.getD k 0)] 61 1 fun j2 cJ j3 j4 aZ b3 => ?_); have cK := zv (b := cJ) s; have fM := s.ch b3 iZ; have fN := v.step b3 iZ; have cL := y.ch b3 id; refine yo (yC (qa1 d g r (((((xs ++ qE [p.state, p.within]) ++ qal (qj p.utf.pend)) ++ qal p.marks) ++ qE [((pn : Nat) : Int)]) ++ (p.params.take k).flatMap (fun x => qZ x.toNat)) cJ 1 [(p.params.getD k 0)] _ fM (Rd.all aZ) rfl (by intro x hx; simp only [List.mem_cons, List.not_mem_nil, or_false] at hx; subst hx; constructor <;> omega) aZ.lt cK (by omega)) ?_); rintro _ fO ⟨cM, cN, cO, rfl, fP, j5, av⟩; refine ⟨_, rfl, ?_⟩; have fQ := av.apart cL.lt A; have j6 := av.apart aZ.lt cK; have fR := fN.trans av; have fS := cL.ch av.ch (fun h => A _ h rfl); refine yq 6 <| yE (nB (nS ?_)); refine q7 <| yp 2 [] (.q6 (((k : Nat) : Int) + 1) .z) ?_; have C : Own fO tU8 1 cM cN cO (u8s (((((xs ++ qE [p.state, p.within]) ++ qal (qj p.utf.pend)) ++ qal p.marks) ++ qE [((pn : Nat) : Int)]) ++ (p.params.take (k + 1)).flatMap (fun x => qZ x.toNat))) := by
    have h := fP; rw [qdw (by omega)]; simp only [qa0, qa9, List.flatMap_append, List.flatMap_cons, List.flatMap_nil, List.append_assoc, List.append_nil] at h ⊢; exact h
   refine yE (fun a ha => fL (k + 1, cM, cN, cO) _ ⟨by omega, C, fR, by omega, fS, fQ⟩ (by show pn - (k + 1) < pn - k; omega) a (ha.kp [0, 3, 35, 36, 37]))
  have D : k = p.params.length := by omega
  rw [D, List.take_length] at s; refine qo (eS (qf (qe (nS ?_)))); refine ysr <| yp 3 [] (.l (y.c 7) .z) <| yo (yC (qP s p.text (by omega)) ?_); rintro _ j7 ⟨fT, fU, fV, rfl, fW, j8, cP⟩; refine ⟨_, rfl, ?_⟩; have j9 := cP.apart y.lt A; have fX := v.trans cP; refine yz 5 <| qd (yR1 (.slice (fT.map at0) fU fV) ?_); exact ⟨_, _, _, rfl, by have h := fW; unfold qbi; simp only [qa0, qa9, List.append_assoc, List.append_nil, Int.toNat_natCast] at h ⊢; rw [hql]; exact h, by omega, fX⟩
 refine qay 8 _ (by kernel_rfl) rfl (yB [.int .u64 ((pn : Nat) : Int)] 61 1 fun ja cQ jb jc cR ad => ?_); have cS := zv (b := cQ) aW; have cT := aa.ch ad id; have cU := aV.ch ad id; have fY := aW.ch ad iZ; have fZ := cA.step ad iZ; refine qm ad eZ <| yH 3 (yC (qP fY p.marks (by omega)) ?_); rintro _ jd ⟨g0, g1, g2, rfl, g3, je, I⟩; refine ⟨_, rfl, ?_⟩; have cV := I.apart cT.lt S; have g4 := I.apart cU.lt ar; have cW := I.apart cR.lt cS; have g5 := fZ.trans I; have cX := cT.ch I.ch (fun h => S _ h rfl); have g6 := cU.ch I.ch (fun h => ar _ h rfl); have b4 := cR.ch I.ch (fun h => cS _ h rfl); refine qm I.ch iZ ?_; refine yK 9 (yC (qa1 g0 g1 g2 (((xs ++ qE [p.state, p.within]) ++ qal (qj p.utf.pend)) ++ qal p.marks) cQ 1 [((pn : Nat) : Int)] _ g3 (Rd.all b4) rfl (by intro x hx; simp only [List.mem_cons, List.not_mem_nil, or_false] at hx; subst hx; constructor <;> omega) b4.lt cW (by omega)) ?_); rintro _ jf ⟨cY, b5, cZ, rfl, g7, jg, ae⟩; refine ⟨_, rfl, ?_⟩; have g8 := ae.apart cX.lt cV; have jh := ae.apart g6.lt g4; have ji := ae.apart b4.lt cW; have g9 := g5.trans ae; have d0 := cX.ch ae.ch (fun h => cV _ h rfl); refine q9 <| yd [10] [] .z <| yDe (nS ?_); refine ys <| ysr <| yp 4 [] (.l (d0.c 6) .z) <| ye <| q8 <| qa2 [0, 3, 35, 36, 37] (f' := [(0, .slice (cY.map at0) b5 cZ), (3, pX bx), (35, .slice pa pn pc), (36, iX ((pn : Nat) : Int)), (37, iX 0)]) <| qy (σ := Nat × Option Nat × Nat × Nat) (fun ⟨k, d, g, r⟩ => [(0, .slice (d.map at0) g r), (3, pX bx), (35, .slice pa pn pc), (36, iX ((pn : Nat) : Int)), (37, iX ((k : Nat) : Int))]) (fun ⟨k, d, g, r⟩ u => k ≤ pn ∧ Own u tU8 1 d g r (u8s (((((xs ++ qE [p.state, p.within]) ++ qal (qj p.utf.pend)) ++ qal p.marks) ++ qE [((pn : Nat) : Int)]) ++ (p.params.take k).flatMap (fun x => qZ x.toNat))) ∧ App w u o d ∧ g ≤ b5 + 10 * k ∧ Blk u bx [iX p.state, uX p.utf.b0, uX p.utf.b1, uX p.utf.b2, iX p.utf.n, .string p.marks, .slice pa pn pc, .string p.text, iX p.within] 55 ∧ ∀ b, d = some b → ¬ b = bx) (fun ⟨k, d, g, r⟩ => pn - k) (0, cY, b5, cZ) rfl ?_ ?_
 ·exact ⟨Nat.zero_le _, by rw [List.take_zero]; exact (by rw [List.flatMap_nil, List.append_nil]; exact g7), g9, Nat.le_refl _, d0, g8⟩
 intro q jj ga jk gb; obtain ⟨k, d, g, r⟩ := q; obtain ⟨hk, s, v, Z, y, A⟩ := ga; refine yx 1 <| ys <| yc (rL ((k : Nat) : Int) ((pn : Nat) : Int)) (fun B => ?_) fun B => ?_
 ·obtain ⟨pb, po, rfl⟩ := hqz.resolve_left (by omega); have a0 := hp.b _ (qbP (l := p.params) (k := k) (by omega)); refine yk <| ys <| q8 <| ysr <| yp 3 [] (.i ((k : Nat) : Int) (pn) (.l (o := (po + (((k : Nat) : Int)).toNat * 1)) (qb3 (Ch.rd v.ch hq (fun h => hpne _ h _ _ rfl rfl)) (by omega)) .z)) <| ye <| q7 <| yp 3 [2] (.p (q := InR .u64 (p.params.getD k 0)) (qap (by omega) (by omega)) .z) <| yo (yB [.int .u64 (p.params.getD k 0)] 61 1 fun jl d1 jm jn b6 b7 => ?_); have d2 := zv (b := d1) s; have gc := s.ch b7 iZ; have gd := v.step b7 iZ; have d3 := y.ch b7 id; refine yo (yC (qa1 d g r (((((xs ++ qE [p.state, p.within]) ++ qal (qj p.utf.pend)) ++ qal p.marks) ++ qE [((pn : Nat) : Int)]) ++ (p.params.take k).flatMap (fun x => qZ x.toNat)) d1 1 [(p.params.getD k 0)] _ gc (Rd.all b6) rfl (by intro x hx; simp only [List.mem_cons, List.not_mem_nil, or_false] at hx; subst hx; constructor <;> omega) b6.lt d2 (by omega)) ?_); rintro _ gf ⟨d4, d5, d6, rfl, gg, jo, aw⟩; refine ⟨_, rfl, ?_⟩; have gh := aw.apart d3.lt A; have jp := aw.apart b6.lt d2; have gi := gd.trans aw; have gj := d3.ch aw.ch (fun h => A _ h rfl); refine yq 6 <| yE (nB (nS ?_)); refine q7 <| yp 2 [] (.q6 (((k : Nat) : Int) + 1) .z) ?_; have C : Own gf tU8 1 d4 d5 d6 (u8s (((((xs ++ qE [p.state, p.within]) ++ qal (qj p.utf.pend)) ++ qal p.marks) ++ qE [((pn : Nat) : Int)]) ++ (p.params.take (k + 1)).flatMap (fun x => qZ x.toNat))) := by
   have h := gg; rw [qdw (by omega)]; simp only [qa0, qa9, List.flatMap_append, List.flatMap_cons, List.flatMap_nil, List.append_assoc, List.append_nil] at h ⊢; exact h
  refine yE (fun a ha => gb (k + 1, d4, d5, d6) _ ⟨by omega, C, gi, by omega, gj, gh⟩ (by show pn - (k + 1) < pn - k; omega) a (ha.kp [0, 3, 35, 36, 37]))
 have D : k = p.params.length := by omega
 rw [D, List.take_length] at s; refine qo (eS (qf (qe (nS ?_)))); refine ysr <| yp 3 [] (.l (y.c 7) .z) <| yo (yC (qP s p.text (by omega)) ?_); rintro _ jq ⟨gk, gl, gm, rfl, gn, jr, d7⟩; refine ⟨_, rfl, ?_⟩; have js := d7.apart y.lt A; have gp := v.trans d7; refine yz 5 <| qd (yR1 (.slice (gk.map at0) gl gm) ?_); exact ⟨_, _, _, rfl, by have h := gn; unfold qbi; simp only [qa0, qa9, List.append_assoc, List.append_nil, Int.toNat_natCast] at h ⊢; rw [hql]; exact h, by omega, gp⟩
structure EncOk (T : TS) : Prop where
  w : 0 ≤ T.grid.w ∧ T.grid.w ≤ 1000
  h : 0 ≤ T.grid.h ∧ T.grid.h ≤ 1000
  t : (0 ≤ T.top ∧ T.top ≤ 1000) ∧ 0 ≤ T.bot ∧ T.bot ≤ 1000
  c : CurB T.cursor
  s : CurB T.saved
  a : CurB T.away
  g : T.grid.lines.length ≤ 60 ∧ ∀ l ∈ T.grid.lines, l.length ≤ 60 ∧ ∀ c ∈ l, cOk c
  o : T.other.lines.length ≤ 60 ∧ ∀ l ∈ T.other.lines, l.length ≤ 60 ∧ ∀ c ∈ l, cOk c
  k : T.back.length ≤ 60 ∧ ∀ l ∈ T.back, l.length ≤ 60 ∧ ∀ c ∈ l, cOk c
  ti : T.title.size ≤ 1000
  r : T.reply.size ≤ 1000
  p : ParB T.parser
theorem CurOk.b {W H : Int} {c : Cur} (h : CurOk W H c) (hW : W ≤ 60) (hH : H ≤ 60) : CurB c := ⟨⟨h.x.1, by have := h.x.2; omega⟩, ⟨h.y.1, by have := h.y.2; omega⟩, h.s⟩
theorem DecOk.enc {T : TS} (h : DecOk T) : EncOk T := by
 have hw := h.w; have hh := h.h; have ht := h.t; refine ⟨by omega, by omega, by omega, h.c.b hw.2 hh.2, h.s.b hw.2 hh.2, h.a.b hw.2 hh.2, ⟨by rw [h.g.1]; omega, fun l hl => ⟨by have := (h.g.2 l hl).1; omega, (h.g.2 l hl).2.2⟩⟩, ⟨by rw [h.g2.1]; omega, fun l hl => ⟨by have := (h.g2.2 l hl).1; omega, (h.g2.2 l hl).2.2⟩⟩, ⟨by have := h.k.1; omega, fun l hl => ⟨(h.k.2 l hl).2.1, (h.k.2 l hl).2.2.2⟩⟩, by have := h.ti; omega, by have := h.r; omega, ?_⟩; have hp := h.p; exact ⟨⟨hp.st.1, by have := hp.st.2; omega⟩, ⟨hp.wi.1, by have := hp.wi.2; omega⟩, hp.u.n, hp.u.pend, by have := hp.m; omega, by have := hp.n; omega, hp.b, by have := hp.t; omega⟩
theorem App.new {w w' : World} {o' : Option Nat} (h : App w w' none o') : ∀ b, o' = some b → w.heap.size ≤ b := fun b e => by
  rcases h.ne with rfl | ⟨g, rfl, hg⟩
  · cases e
  · cases e; exact hg
def qfx (f : Nat → Bool) : List Bool := (List.range 60).map f
theorem tabL_v (f : Nat → Bool) : (qfx f).map Value.bool = qiq f := by
 unfold qfx qiq; rw [List.map_map]; rfl
theorem tabL_f (f : Nat → Bool) : qG (qfx f) = qai f 60 := by
 have hl : (qfx f).length = 60 := by simp [qfx]
 unfold qG; rw [hl]; refine qc6 fun i hi => ?_; unfold lb qfx; simp [List.getD, hi]
theorem tabs_rd {w : World} {t g o : Nat} {bk ps : Value} {T : TS} (h : Blk w t (T.vals g o bk ps) qam) : Rd w (some ⟨t, 28, none⟩) ((qfx T.tabs).map Value.bool) := by
 rw [tabL_v]; refine ⟨(fun e => by cases e), fun ad e j u hj => ?_⟩; cases e; have hl := (List.getElem?_eq_some_iff.1 hj).1; have a : j < 60 := by simpa [qiq] using hl
 have hu : u = .bool (T.tabs j) := by
  unfold qiq at hj; rw [List.getElem?_map, List.getElem?_range a] at hj; exact (zi hj).symm
 have := qje h ((j : Nat) : Int) (by omega) (by omega); rw [Int.toNat_natCast, Nat.mul_one] at this; rw [qbF, hu]; exact this
theorem qeo {rows : List Row} {k : Nat} {q : Row} (h : rows[k]? = some q) : (rows.map Row.l).take (k + 1) = (rows.map Row.l).take k ++ [q.l] := by
 have hk : k < (rows.map Row.l).length := by rw [List.length_map]; exact (List.getElem?_eq_some_iff.1 h).1
 rw [List.take_succ_eq_append_getElem hk]; congr 2; have : (rows.map Row.l)[k]? = some q.l := by rw [List.getElem?_map, h]; rfl
 exact (List.getElem?_eq_some_iff.1 this).2
theorem qiS {rows : List Row} {k : Nat} (h : k < rows.length) : ∃ q, rows[k]? = some q ∧ q ∈ rows := ⟨_, List.getElem?_eq_getElem h, List.getElem_mem h⟩
set_option maxHeartbeats 4000000 in
theorem qg9 {w : World} {t : Nat} {T : TS} {F : Nat → Prop} (hA0 : TermAt w t T F) (he : EncOk T) : Calls Tryz.prog 12 [pX t].toArray w fun e w' =>
 ∃ o n cap, e = .returned (.slice (o.map at0) n cap) ∧ Own w' tU8 1 o n cap (u8s (qet T)) ∧ n ≤ 1000000 ∧ (∀ b, o = some b → w.heap.size ≤ b) ∧ Ch (fun _ => False) w w' := by
 obtain ⟨g, q, ba, bn, bc, pa, pn, pc, F1, F2, FB, FP, hI⟩ := hA0; obtain ⟨r1, b9, v, D⟩ := hI.g1; obtain ⟨r2, bf, A, E⟩ := hI.g2; obtain ⟨a6, G, a7⟩ := hI.bk; have eB : bn ≤ 60 := by have h1 := G.len; have Y := he.k.1; rw [← a7, List.length_map] at Y; omega
 have eC := he.w; have eD := he.h; have eE := he.t; have eF := he.ti; have eG := he.r; have eH := qfk [T.wrap, T.origin, T.insert, T.hidden, T.alt, T.draw0, T.draw1, T.shift] (by simp); have eI := qfk (qfx T.tabs) (by simp [qfx]); refine yA Tryz.func12 rfl <| yx 1 <| ys <| yD [26, 27] fun eJ eK bg => ?_; have bh := (Own.nil w tU8 1).ch bg iZ; have M := (App.refl w none).step bg iZ; refine yd (uL 0 26) [7, 15, 20, 25] (.l (qg (qC M.ch) (hI.blk.c 0) id) (.l (qg (qC M.ch) (D.head.c 0) id) (.p (q := InR .u64 T.grid.w) (qap (by omega) (by omega)) (.l (qg (qC M.ch) (hI.blk.c 0) id) (.l (qg (qC M.ch) (D.head.c 1) id) (.p (q := InR .u64 T.grid.h) (qap (by omega) (by omega)) (.l (qg (qC M.ch) (hI.blk.c 26) id) (.p (q := InR .u64 T.top) (qap (by omega) (by omega)) (.l (qg (qC M.ch) (hI.blk.c 27) id) (.p (q := InR .u64 T.bot) (qap (by omega) (by omega)) .z)))))))))) <| yK 26 (yB [.int .u64 T.grid.w, .int .u64 T.grid.h, .int .u64 T.top, .int .u64 T.bot] 61 4 fun eL ag cr eM ah bi => ?_); have aF := zv (b := ag) bh; have eN : w.heap.size ≤ ag := by rw [cr]; exact M.ch.size
 have ct := bh.ch bi iZ; have cu := M.step bi iZ; refine q9 ?_; refine yK 27 (yC (qa1 none 0 0 ([] : List Int) ag 4 [T.grid.w, T.grid.h, T.top, T.bot] _ ct (Rd.all ah) rfl (by intro x hx; simp only [List.mem_cons, List.not_mem_nil, or_false] at hx; rcases hx with rfl | rfl | rfl | rfl <;> (constructor <;> omega)) ah.lt aF (by omega)) ?_); rintro _ eO ⟨cv, cw, cx, rfl, cy, eP, aG⟩; refine ⟨_, rfl, ?_⟩; have bj := aG.apart ah.lt aF; have cz := cu.trans aG; have cA := ah.ch aG.ch (fun h => aF _ h rfl); refine q9 <| yd [28] [] .z <| yDe (nS ?_); refine ys <| yD [35, 36, 41, 42, 43] fun eQ eR aH => ?_; have cB := cA.ch aH id; have bl := cy.ch aH iZ; have H := cz.step aH iZ; refine yd [0, 1, 2, 3, 4, 5, 6, 7, 8, 9, 10, 11, 12, 13, 14, 15, 16, 17, 18, 19, 20, 21, 22, 23, 24, 25, 26, 27, 28, 29, 30, 31, 32, 33, 34, 37, 38, 39, 40] [] (.l (qg (qC H.ch) (hI.blk.c 88) id) (.l (qg (qC H.ch) (hI.blk.c 89) id) (.l (qg (qC H.ch) (hI.blk.c 90) id) (.l (qg (qC H.ch) (hI.blk.c 91) id) (.l (qg (qC H.ch) (hI.blk.c 95) id) (.i 0 (2) (.l (qg (qC H.ch) (hI.blk.c 92) id) (.i 1 (2) (.l (qg (qC H.ch) (hI.blk.c 93) id) (.l (qg (qC H.ch) (hI.blk.c 94) id) .z)))))))))) <| yK 35 (yB [.bool T.wrap, .bool T.origin, .bool T.insert, .bool T.hidden, .bool T.alt, .bool T.draw0, .bool T.draw1, .bool T.shift] 4 8 fun eT ai cC eU bm aI => ?_); have bp := zv (b := ai) bl; have eV : w.heap.size ≤ ai := by rw [cC]; exact H.ch.size
 have cD := cB.ch aI id; have cE := bl.ch aI iZ; have cF := H.step aI iZ; refine q9 <| yK 36 (yQ (qfl ai 0 8 [T.wrap, T.origin, T.insert, T.hidden, T.alt, T.draw0, T.draw1, T.shift] _ (Rd.all (cs := [T.wrap, T.origin, T.insert, T.hidden, T.alt, T.draw0, T.draw1, T.shift].map Value.bool) bm) rfl (by decide)) fun eW aj => ?_); have cG := cD.ch aj id; have cH := cE.ch aj iZ; have bq := cF.step aj iZ; have cI := bm.ch aj id; refine q9 <| yK 41 (yQ (qfl t 28 60 (qfx T.tabs) _ (Ch.rd (qC bq.ch) (tabs_rd hI.blk) id) (by simp [qfx]) (by decide)) fun eX ak => ?_); have cJ := cG.ch ak id; have br := cH.ch ak iZ; have bs := bq.step ak iZ; have cK := cI.ch ak id; refine q9 <| yK 42 (yB [.int .u64 ((qG [T.wrap, T.origin, T.insert, T.hidden, T.alt, T.draw0, T.draw1, T.shift] : Nat) : Int), .int .u64 ((qG (qfx T.tabs) : Nat) : Int)] 61 2 fun eY al cL eZ am an => ?_); have aJ := zv (b := al) br; have fa : w.heap.size ≤ al := by rw [cL]; exact bs.ch.size
 have bt := cJ.ch an id; have cM := br.ch an iZ; have cN := bs.step an iZ; have bu := cK.ch an id; refine q9 ?_; refine yK 43 (yC (qa1 cv cw cx (([] : List Int) ++ qE [T.grid.w, T.grid.h, T.top, T.bot]) al 2 [((qG [T.wrap, T.origin, T.insert, T.hidden, T.alt, T.draw0, T.draw1, T.shift] : Nat) : Int), ((qG (qfx T.tabs) : Nat) : Int)] _ cM (Rd.all am) rfl (by intro x hx; simp only [List.mem_cons, List.not_mem_nil, or_false] at hx; rcases hx with rfl | rfl <;> (constructor <;> omega)) am.lt aJ (by omega)) ?_); rintro _ fb ⟨fc, fd, fe, rfl, cO, ff, R⟩; refine ⟨_, rfl, ?_⟩; have cP := R.apart bt.lt bj; have cQ := R.apart bu.lt bp; have cR := R.apart am.lt aJ; have cS := cN.trans R; have cT := bt.ch R.ch (fun h => bj _ h rfl); have cU := bu.ch R.ch (fun h => bp _ h rfl); have cV := am.ch R.ch (fun h => aJ _ h rfl); refine q9 <| yd [44] [] .z <| yDe (nS ?_); refine ys <| ys <| yD [12] fun fg fh a8 => ?_; have cW := cT.ch a8 id; have cX := cU.ch a8 id; have cY := cV.ch a8 id; have bv := cO.ch a8 iZ; have a9 := cS.step a8 iZ; refine yd [0, 1, 2, 3, 4, 5, 6, 7, 8, 9, 10, 11, 14] [] (.a (qT (qC a9.ch) (hI.blk.cs 2 8) id) (.a (qT (qC a9.ch) (hI.blk.cs 10 8) id) (.a (qT (qC a9.ch) (hI.blk.cs 18 8) id) .z))) <| yK 12 (yB [iX T.cursor.x, iX T.cursor.y, .bool T.cursor.late, .bool T.cursor.sty.bold, .bool T.cursor.sty.under, .bool T.cursor.sty.turned, iX T.cursor.sty.fore, iX T.cursor.sty.back, iX T.saved.x, iX T.saved.y, .bool T.saved.late, .bool T.saved.sty.bold, .bool T.saved.sty.under, .bool T.saved.sty.turned, iX T.saved.sty.fore, iX T.saved.sty.back, iX T.away.x, iX T.away.y, .bool T.away.late, .bool T.away.sty.bold, .bool T.away.sty.under, .bool T.away.sty.turned, iX T.away.sty.fore, iX T.away.sty.back] 46 3 fun fi aa cZ fj aK ab => ?_)
 have bw := zv (b := aa) bv; have fk : w.heap.size ≤ aa := by rw [cZ]; exact a9.ch.size
 have bx := cW.ch ab id; have bA := cX.ch ab id; have bB := cY.ch ab id; have bC := bv.ch ab iZ; have bD := a9.step ab iZ; refine q9 <| yd [13] [] .z <| yDe (nS ?_); refine q8 <| yU 4 (yU1 ?_); refine yx 1 <| ys <| yct <| yk <| ys <| q8 <| ysr <| yp 2 [] (.i 0 (3) (.a (aK.cs 0 8) .z)) <| yo (yN [iX 0, iX 0, .bool false, .bool false, .bool false, .bool false, iX 0, iX 0] 46 fun fl N d0 fm d1 Z => ?_); have bE := zv (b := N) bC; have d2 : w.heap.size ≤ N := by rw [d0]; exact bD.ch.size
 have d3 := bx.ch Z id; have d4 := bA.ch Z id; have d5 := bB.ch Z id; have d6 := bC.ch Z iZ; have d7 := bD.step Z iZ; have d8 := aK.ch Z id; refine yo (yT [iX T.cursor.x, iX T.cursor.y, .bool T.cursor.late, .bool T.cursor.sty.bold, .bool T.cursor.sty.under, .bool T.cursor.sty.turned, iX T.cursor.sty.fore, iX T.cursor.sty.back] d1 fun fn bF a0 => ?_); have d9 := d3.ch a0 (fun (h : ag = N) => by have := bx.lt; omega); have da := d4.ch a0 (fun (h : ai = N) => by have := bA.lt; omega); have db := d5.ch a0 (fun (h : al = N) => by have := bB.lt; omega); have dc := d6.ch a0 (fun b e (h : b = N) => bE b e h); have dd := d7.step a0 (fun i hi (h : i = N) => by have := d2; omega); have bG := d8.ch a0 (fun (h : aa = N) => by have := aK.lt; omega); refine ye <| q7 <| yp 2 [] (.a (bF.cs 0 8) .z) <| yo (yC (qen dc T.cursor he.c (by omega)) ?_); rintro _ fo ⟨fp, fq, fr, rfl, bH, fs, S⟩; refine ⟨_, rfl, ?_⟩; have ft := S.apart d9.lt cP; have fu := S.apart da.lt cQ; have fv := S.apart db.lt cR; have bI := S.apart bG.lt bw; have fw := S.apart bF.lt bE; have bJ := dd.trans S; have aL := bG.ch S.ch (fun h => bw _ h rfl); refine yq 4 <| yE (nB (nS ?_)); refine q7 <| yp 2 [] (.q6 1 .z) <| yE (nU (yU1 ?_)); refine yx 1 <| ys <| yct <| yk <| ys <| q8 <| ysr <| yp 2 [] (.i 1 (3) (.a (aL.cs 8 8) .z)) <| yo (yN [iX 0, iX 0, .bool false, .bool false, .bool false, .bool false, iX 0, iX 0] 46 fun fx ac de fy df aM => ?_); have bK := zv (b := ac) bH; have dg : w.heap.size ≤ ac := by rw [de]; exact bJ.ch.size
 have dh := aL.ch aM id; have di := bH.ch aM iZ; have dj := bJ.step aM iZ; refine yo (yT [iX T.saved.x, iX T.saved.y, .bool T.saved.late, .bool T.saved.sty.bold, .bool T.saved.sty.under, .bool T.saved.sty.turned, iX T.saved.sty.fore, iX T.saved.sty.back] df fun fz bL aN => ?_); have bM := dh.ch aN (fun (h : aa = ac) => by have := aL.lt; omega); have dk := di.ch aN (fun b e (h : b = ac) => bK b e h); have dl := dj.step aN (fun i hi (h : i = ac) => by have := dg; omega); refine ye <| q7 <| yp 2 [] (.a (bL.cs 0 8) .z) <| yo (yC (qen dk T.saved he.s (by omega)) ?_); rintro _ fA ⟨fB, fC, fD, rfl, bN, fE, ao⟩; refine ⟨_, rfl, ?_⟩; have dm := ao.apart bM.lt bI; have fF := ao.apart bL.lt bK; have bO := dl.trans ao; have aO := bM.ch ao.ch (fun h => bI _ h rfl); refine yq 4 <| yE (nB (nS ?_)); refine q7 <| yp 2 [] (.q6 2 .z) <| yE (nU (yU1 ?_)); refine yx 1 <| ys <| yct <| yk <| ys <| q8 <| ysr <| yp 2 [] (.i 2 (3) (.a (aO.cs 16 8) .z)) <| yo (yN [iX 0, iX 0, .bool false, .bool false, .bool false, .bool false, iX 0, iX 0] 46 fun fG ad dn fH dp aP => ?_); have bP := zv (b := ad) bN; have dq : w.heap.size ≤ ad := by rw [dn]; exact bO.ch.size
 have dr := aO.ch aP id; have ds := bN.ch aP iZ; have dt := bO.step aP iZ; refine yo (yT [iX T.away.x, iX T.away.y, .bool T.away.late, .bool T.away.sty.bold, .bool T.away.sty.under, .bool T.away.sty.turned, iX T.away.sty.fore, iX T.away.sty.back] dp fun fI bQ aQ => ?_); have du := dr.ch aQ (fun (h : aa = ad) => by have := aO.lt; omega); have dv := ds.ch aQ (fun b e (h : b = ad) => bP b e h); have dw := dt.step aQ (fun i hi (h : i = ad) => by have := dq; omega); refine ye <| q7 <| yp 2 [] (.a (bQ.cs 0 8) .z) <| yo (yC (qen dv T.away he.a (by omega)) ?_); rintro _ fJ ⟨aR, ap, aS, rfl, dx, fK, aT⟩; refine ⟨_, rfl, ?_⟩; have fL := aT.apart du.lt dm; have fM := aT.apart bQ.lt bP; have dy := dw.trans aT; refine yq 4 <| yE (nB (nS ?_)); refine q7 <| yp 2 [] (.q6 3 .z) <| yE (nU (yU1 ?_)); refine yx 1 <| ys <| ycf <| qo (eS (qf (qe (nS ?_)))); refine ys <| ys <| yD [8] fun fN fO bR => ?_; have bS := dx.ch bR iZ; have aq := dy.step bR iZ; refine yd [0, 1, 2, 3, 4, 5, 6, 7, 10] [] (.l (qg (qC aq.ch) (hI.blk.c 0) id) (.l (qg (qC aq.ch) (hI.blk.c 1) id) .z)) <| yK 8 (yB [pX g, pX q] 42 2 fun fP B dz fQ bT bU => ?_); have dA := zv (b := B) bS; have fR : w.heap.size ≤ B := by rw [dz]; exact aq.ch.size
 have dB := bS.ch bU iZ; have bV := aq.step bU iZ; refine q9 <| yd [9] [] .z <| yDe (nS ?_); refine q8 <| yU 3 (yU1 ?_); refine yx 1 <| ys <| yct <| yk <| ys <| q8 <| ysr <| yf (f' := [(0, pX t), (3, .slice (aR.map at0) ap aS), (7, pX g), (114, .slice (some ⟨B, 0, none⟩) 2 2), (115, iX 2), (116, iX 0)]) 3 [] [0, 3, 7, 114, 115, 116] (.i 0 (2) (.l (bT.c 0) .z)) <| ye <| ysr <| yp 6 [] (.l (qg (qC bV.ch) (D.head.c 2) id) .z) <| ye <| q8 ?_; have dC := he.g.1; rw [← D.lines, List.length_map] at dC; refine qa2 [0, 3, 114, 115, 116, 123, 124, 125] (f' := [(0, pX t), (3, .slice (aR.map at0) ap aS), (114, .slice (some ⟨B, 0, none⟩) 2 2), (115, iX 2), (116, iX 0), (123, .slice (some ⟨r1, 0, none⟩) v.length b9), (124, iX ((v.length : Nat) : Int)), (125, iX 0)]) <| qy (σ := Nat × Option Nat × Nat × Nat) (fun ⟨j, K, L, U⟩ => [(0, pX t), (3, .slice (K.map at0) L U), (114, .slice (some ⟨B, 0, none⟩) 2 2), (115, iX 2), (116, iX 0), (123, .slice (some ⟨r1, 0, none⟩) v.length b9), (124, iX ((v.length : Nat) : Int)), (125, iX ((j : Nat) : Int))]) (fun ⟨j, K, L, U⟩ u => j ≤ v.length ∧ Own u tU8 1 K L U (u8s ((((((([] : List Int) ++ qE [T.grid.w, T.grid.h, T.top, T.bot]) ++ qE [((qG [T.wrap, T.origin, T.insert, T.hidden, T.alt, T.draw0, T.draw1, T.shift] : Nat) : Int), ((qG (qfx T.tabs) : Nat) : Int)]) ++ qbC T.cursor) ++ qbC T.saved) ++ qbC T.away) ++ ((v.map Row.l).take j).flatMap qQ)) ∧ App w u none K ∧ L ≤ ap + 1800 * j ∧ Blk u B [pX g, pX q] 42 ∧ ∀ b, K = some b → ¬ b = B) (fun ⟨j, K, L, U⟩ => v.length - j) (0, aR, ap, aS) rfl ?_ ?_
 ·exact ⟨Nat.zero_le _, (by rw [List.take_zero, List.flatMap_nil, List.append_nil]; exact dB), bV, Nat.le_refl _, bT, dA⟩
 intro p fS dD fT dE; obtain ⟨j, K, L, U⟩ := p; obtain ⟨fU, aU, V, fV, ar, aV⟩ := dD; refine yx 1 <| ys <| yc (rL ((j : Nat) : Int) ((v.length : Nat) : Int)) (fun dF => ?_) fun dF => ?_
 ·obtain ⟨I, bW, a1⟩ := qiS (rows := v) (k := j) (by omega); obtain ⟨fW, dG⟩ := he.g.2 I.l (by rw [← D.lines]; exact List.mem_map_of_mem a1); have fX := (D.line I a1).2; refine yk <| ys <| q8 <| ysr <| yp 3 [] (.i ((j : Nat) : Int) (v.length) (.l (qiN (Ch.rd (qC V.ch) D.body.rd id) bW) .z)) <| ye <| q7 <| yq 2 <| yo (yC (qdx aU I.b I.n I.cap I.l (Ch.rd (qC V.ch) (D.line I a1).1.rd id) (Nat.lt_of_lt_of_le (D.line I a1).1.lt V.ch.size) (V.apart (D.line I a1).1.lt (fun b e => by cases e)) (D.line I a1).2 dG (by omega)) ?_); rintro _ dH ⟨bX, bY, bZ, rfl, dI, fY, aW⟩; refine ⟨_, rfl, ?_⟩; have dJ := aW.apart ar.lt aV; have dK := V.trans aW; have dL := ar.ch aW.ch (fun h => aV _ h rfl); refine yq 4 <| yE (nB (nS ?_)); refine q7 <| yp 2 [] (.q6 (((j : Nat) : Int) + 1) .z) ?_; have dM : Own dH tU8 1 bX bY bZ (u8s ((((((([] : List Int) ++ qE [T.grid.w, T.grid.h, T.top, T.bot]) ++ qE [((qG [T.wrap, T.origin, T.insert, T.hidden, T.alt, T.draw0, T.draw1, T.shift] : Nat) : Int), ((qG (qfx T.tabs) : Nat) : Int)]) ++ qbC T.cursor) ++ qbC T.saved) ++ qbC T.away) ++ ((v.map Row.l).take (j + 1)).flatMap qQ)) := by
   have h := dI; rw [qeo bW]; simp only [qa0, qa9, List.flatMap_append, List.flatMap_cons, List.flatMap_nil, List.append_assoc, List.append_nil, Int.toNat_natCast] at h ⊢; exact h
  refine yE (fun a ha => dE (j + 1, bX, bY, bZ) _ ⟨by omega, dM, dK, by omega, dL, dJ⟩ (by show v.length - (j + 1) < v.length - j; omega) a (ha.kp [0, 3, 114, 115, 116, 123, 124, 125]))
 have dN : j = (v.map Row.l).length := by rw [List.length_map]; omega
 rw [dN, List.take_length, D.lines] at aU; refine qo (eS (qf (qe (nB (nS ?_))))); refine q7 <| yp 2 [] (.q6 1 .z) <| yE (nU (yU1 ?_)); refine yx 1 <| ys <| yct <| yk <| ys <| q8 <| ysr <| yp 3 [] (.i 1 (2) (.l (ar.c 1) .z)) <| ye <| ysr <| yp 6 [] (.l (qg (qC V.ch) (E.head.c 2) id) .z) <| ye <| q8 ?_; have dO := he.o.1; rw [← E.lines, List.length_map] at dO; refine qa2 [0, 3, 114, 115, 116, 123, 124, 125] (f' := [(0, pX t), (3, .slice (K.map at0) L U), (114, .slice (some ⟨B, 0, none⟩) 2 2), (115, iX 2), (116, iX 1), (123, .slice (some ⟨r2, 0, none⟩) A.length bf), (124, iX ((A.length : Nat) : Int)), (125, iX 0)]) <| qy (σ := Nat × Option Nat × Nat × Nat) (fun ⟨m, O, W, a2⟩ => [(0, pX t), (3, .slice (O.map at0) W a2), (114, .slice (some ⟨B, 0, none⟩) 2 2), (115, iX 2), (116, iX 1), (123, .slice (some ⟨r2, 0, none⟩) A.length bf), (124, iX ((A.length : Nat) : Int)), (125, iX ((m : Nat) : Int))]) (fun ⟨m, O, W, a2⟩ u => m ≤ A.length ∧ Own u tU8 1 O W a2 (u8s (((((((([] : List Int) ++ qE [T.grid.w, T.grid.h, T.top, T.bot]) ++ qE [((qG [T.wrap, T.origin, T.insert, T.hidden, T.alt, T.draw0, T.draw1, T.shift] : Nat) : Int), ((qG (qfx T.tabs) : Nat) : Int)]) ++ qbC T.cursor) ++ qbC T.saved) ++ qbC T.away) ++ (T.grid.lines).flatMap qQ) ++ ((A.map Row.l).take m).flatMap qQ)) ∧ App w u none O ∧ W ≤ L + 1800 * m ∧ Blk u B [pX g, pX q] 42 ∧ ∀ b, O = some b → ¬ b = B) (fun ⟨m, O, W, a2⟩ => A.length - m) (0, K, L, U) rfl ?_ ?_
 ·exact ⟨Nat.zero_le _, (by rw [List.take_zero, List.flatMap_nil, List.append_nil]; exact aU), V, Nat.le_refl _, ar, aV⟩
 intro p fZ dP g0 dQ; obtain ⟨m, O, W, a2⟩ := p; obtain ⟨g3, au, P, g4, aX, av⟩ := dP; refine yx 1 <| ys <| yc (rL ((m : Nat) : Int) ((A.length : Nat) : Int)) (fun dR => ?_) fun dR => ?_
 ·obtain ⟨J, c0, a3⟩ := qiS (rows := A) (k := m) (by omega); obtain ⟨g5, dS⟩ := he.o.2 J.l (by rw [← E.lines]; exact List.mem_map_of_mem a3); have g6 := (E.line J a3).2; refine yk <| ys <| q8 <| ysr <| yp 3 [] (.i ((m : Nat) : Int) (A.length) (.l (qiN (Ch.rd (qC P.ch) E.body.rd id) c0) .z)) <| ye <| q7 <| yq 2 <| yo (yC (qdx au J.b J.n J.cap J.l (Ch.rd (qC P.ch) (E.line J a3).1.rd id) (Nat.lt_of_lt_of_le (E.line J a3).1.lt P.ch.size) (P.apart (E.line J a3).1.lt (fun b e => by cases e)) (E.line J a3).2 dS (by omega)) ?_); rintro _ dT ⟨c1, c2, c3, rfl, dU, g7, aY⟩; refine ⟨_, rfl, ?_⟩; have dV := aY.apart aX.lt av; have dW := P.trans aY; have dX := aX.ch aY.ch (fun h => av _ h rfl); refine yq 4 <| yE (nB (nS ?_)); refine q7 <| yp 2 [] (.q6 (((m : Nat) : Int) + 1) .z) ?_; have dY : Own dT tU8 1 c1 c2 c3 (u8s (((((((([] : List Int) ++ qE [T.grid.w, T.grid.h, T.top, T.bot]) ++ qE [((qG [T.wrap, T.origin, T.insert, T.hidden, T.alt, T.draw0, T.draw1, T.shift] : Nat) : Int), ((qG (qfx T.tabs) : Nat) : Int)]) ++ qbC T.cursor) ++ qbC T.saved) ++ qbC T.away) ++ (T.grid.lines).flatMap qQ) ++ ((A.map Row.l).take (m + 1)).flatMap qQ)) := by
   have h := dU; rw [qeo c0]; simp only [qa0, qa9, List.flatMap_append, List.flatMap_cons, List.flatMap_nil, List.append_assoc, List.append_nil, Int.toNat_natCast] at h ⊢; exact h
  refine yE (fun a ha => dQ (m + 1, c1, c2, c3) _ ⟨by omega, dY, dW, by omega, dX, dV⟩ (by show A.length - (m + 1) < A.length - m; omega) a (ha.kp [0, 3, 114, 115, 116, 123, 124, 125]))
 have dZ : m = (A.map Row.l).length := by rw [List.length_map]; omega
 rw [dZ, List.take_length, E.lines] at au; refine qo (eS (qf (qe (nB (nS ?_))))); refine q7 <| yp 2 [] (.q6 2 .z) <| yE (nU (yU1 ?_)); refine yx 1 <| ys <| ycf <| qo (eS (qf (qe (nS ?_)))); refine ysr <| yp 7 [6] (.l (qg (qC P.ch) (hI.blk.c 97) id) (.p (q := InR .u64 ((bn : Nat) : Int)) (qap (by omega) (by omega)) .z)) <| yo (yB [.int .u64 ((bn : Nat) : Int)] 61 1 fun g8 aZ e0 g9 b0 b1 => ?_); have c4 := zv (b := aZ) au; have ga : w.heap.size ≤ aZ := by rw [e0]; exact P.ch.size
 have e1 := au.ch b1 iZ; have e2 := P.step b1 iZ; have c5 := aX.ch b1 id; refine yo (yC (qa1 O W a2 (((((((([] : List Int) ++ qE [T.grid.w, T.grid.h, T.top, T.bot]) ++ qE [((qG [T.wrap, T.origin, T.insert, T.hidden, T.alt, T.draw0, T.draw1, T.shift] : Nat) : Int), ((qG (qfx T.tabs) : Nat) : Int)]) ++ qbC T.cursor) ++ qbC T.saved) ++ qbC T.away) ++ (T.grid.lines).flatMap qQ) ++ (T.other.lines).flatMap qQ) aZ 1 [((bn : Nat) : Int)] _ e1 (Rd.all b0) rfl (by intro x hx; simp only [List.mem_cons, List.not_mem_nil, or_false] at hx; subst hx; constructor <;> omega) b0.lt c4 (by omega)) ?_); rintro _ gb ⟨c6, b2, c7, rfl, e3, gc, aw⟩; refine ⟨_, rfl, ?_⟩; have e4 := aw.apart c5.lt av; have gd := aw.apart b0.lt c4; have c8 := e2.trans aw; have e5 := c5.ch aw.ch (fun h => av _ h rfl); refine yz 10 <| ys <| ysr <| yp 6 [] (.l (qg (qC c8.ch) (hI.blk.c 97) id) .z) <| ye <| q8 ?_; have e6 := he.k.1; rw [← a7, List.length_map] at e6; have gf := G.len; refine qa2 [0, 3, 146, 147, 148] (f' := [(0, pX t), (3, .slice (c6.map at0) b2 c7), (146, .slice ba bn bc), (147, iX ((bn : Nat) : Int)), (148, iX 0)]) <| qy (σ := Nat × Option Nat × Nat × Nat) (fun ⟨d, Q, X, a4⟩ => [(0, pX t), (3, .slice (Q.map at0) X a4), (146, .slice ba bn bc), (147, iX ((bn : Nat) : Int)), (148, iX ((d : Nat) : Int))]) (fun ⟨d, Q, X, a4⟩ u => d ≤ bn ∧ Own u tU8 1 Q X a4 (u8s (((((((((([] : List Int) ++ qE [T.grid.w, T.grid.h, T.top, T.bot]) ++ qE [((qG [T.wrap, T.origin, T.insert, T.hidden, T.alt, T.draw0, T.draw1, T.shift] : Nat) : Int), ((qG (qfx T.tabs) : Nat) : Int)]) ++ qbC T.cursor) ++ qbC T.saved) ++ qbC T.away) ++ (T.grid.lines).flatMap qQ) ++ (T.other.lines).flatMap qQ) ++ qE [((bn : Nat) : Int)]) ++ ((a6.map Row.l).take d).flatMap (fun l => qZ l.length ++ qQ l))) ∧ App w u none Q ∧ X ≤ b2 + 1810 * d ∧ Blk u B [pX g, pX q] 42 ∧ ∀ b, Q = some b → ¬ b = B) (fun ⟨d, Q, X, a4⟩ => bn - d) (0, c6, b2, c7) rfl ?_ ?_
 ·exact ⟨Nat.zero_le _, (by rw [List.take_zero, List.flatMap_nil, List.append_nil]; exact e3), c8, Nat.le_refl _, e5, e4⟩
 intro p gg e7 gh e8; obtain ⟨d, Q, X, a4⟩ := p; obtain ⟨gi, ax, ay, gj, c9, az⟩ := e7; refine yx 1 <| ys <| yc (rL ((d : Nat) : Int) ((bn : Nat) : Int)) (fun e9 => ?_) fun e9 => ?_
 ·obtain ⟨bb, bo, rfl⟩ := ln_some hI.bz G (by omega); obtain ⟨C, ca, a5⟩ := qiS (rows := a6) (k := d) (by omega); obtain ⟨gk, ea⟩ := he.k.2 C.l (by rw [← a7]; exact List.mem_map_of_mem a5); have eb := (G.line C a5).2; refine yk <| ys <| q8 <| ysr <| yp 3 [] (.i ((d : Nat) : Int) (bn) (.l (qiN (Ch.rd (qC ay.ch) G.rd id) ca) .z)) <| ye <| q7 <| yp 4 [3] (.p (q := InR .u64 ((C.n : Nat) : Int)) (qap (by omega) (by omega)) .z) <| yo (yB [.int .u64 ((C.n : Nat) : Int)] 61 1 fun gl b3 ec gm aA b4 => ?_); have b5 := zv (b := b3) ax; have gn : w.heap.size ≤ b3 := by rw [ec]; exact ay.ch.size
  have cb := c9.ch b4 id; have ed := ax.ch b4 iZ; have ee := ay.step b4 iZ; refine yo (yC (qa1 Q X a4 (((((((((([] : List Int) ++ qE [T.grid.w, T.grid.h, T.top, T.bot]) ++ qE [((qG [T.wrap, T.origin, T.insert, T.hidden, T.alt, T.draw0, T.draw1, T.shift] : Nat) : Int), ((qG (qfx T.tabs) : Nat) : Int)]) ++ qbC T.cursor) ++ qbC T.saved) ++ qbC T.away) ++ (T.grid.lines).flatMap qQ) ++ (T.other.lines).flatMap qQ) ++ qE [((bn : Nat) : Int)]) ++ ((a6.map Row.l).take d).flatMap (fun l => qZ l.length ++ qQ l)) b3 1 [((C.n : Nat) : Int)] _ ed (Rd.all aA) rfl (by intro x hx; simp only [List.mem_cons, List.not_mem_nil, or_false] at hx; subst hx; constructor <;> omega) aA.lt b5 (by omega)) ?_); rintro _ gp ⟨gq, gr, gs, rfl, ef, gu, ae⟩; refine ⟨_, rfl, ?_⟩; have cc := ae.apart cb.lt az; have eg := ae.apart aA.lt b5; have aB := ee.trans ae; have cd := cb.ch ae.ch (fun h => az _ h rfl); have eh := aA.ch ae.ch (fun h => b5 _ h rfl); refine yq 7 <| yo (yC (qdx ef C.b C.n C.cap C.l (Ch.rd (qC aB.ch) (G.line C a5).1.rd id) (Nat.lt_of_lt_of_le (G.line C a5).1.lt aB.ch.size) (aB.apart (G.line C a5).1.lt (fun b e => by cases e)) (G.line C a5).2 ea (by omega)) ?_); rintro _ ei ⟨ce, cf, cg, rfl, ej, gv, aC⟩; refine ⟨_, rfl, ?_⟩; have ek := aC.apart cd.lt cc; have gw := aC.apart eh.lt eg; have el := aB.trans aC; have em := cd.ch aC.ch (fun h => cc _ h rfl); refine yq 9 <| yE (nB (nS ?_)); refine q7 <| yp 2 [] (.q6 (((d : Nat) : Int) + 1) .z) ?_; have en : Own ei tU8 1 ce cf cg (u8s (((((((((([] : List Int) ++ qE [T.grid.w, T.grid.h, T.top, T.bot]) ++ qE [((qG [T.wrap, T.origin, T.insert, T.hidden, T.alt, T.draw0, T.draw1, T.shift] : Nat) : Int), ((qG (qfx T.tabs) : Nat) : Int)]) ++ qbC T.cursor) ++ qbC T.saved) ++ qbC T.away) ++ (T.grid.lines).flatMap qQ) ++ (T.other.lines).flatMap qQ) ++ qE [((bn : Nat) : Int)]) ++ ((a6.map Row.l).take (d + 1)).flatMap (fun l => qZ l.length ++ qQ l))) := by
   have h := ej; rw [qeo ca]; simp only [qa0, qa9, List.flatMap_append, List.flatMap_cons, List.flatMap_nil, List.append_assoc, List.append_nil, Int.toNat_natCast] at h ⊢; rw [eb]; exact h
  refine yE (fun a ha => e8 (d + 1, ce, cf, cg) _ ⟨by omega, en, el, by omega, em, ek⟩ (by show bn - (d + 1) < bn - d; omega) a (ha.kp [0, 3, 146, 147, 148]))
 have eo : d = (a6.map Row.l).length := by rw [List.length_map]; omega
 rw [eo, List.take_length, a7] at ax; refine qo (eS (qf (qe (nS ?_)))); refine ys <| qW (fun b => w.heap.size ≤ b) [15] (by kernel_rfl) (fun gx gy b6 => ?_); have ci := c9.ch b6 id; have ep := ax.ch b6 iZ; have af := ay.step b6 iZ; refine ydC [0, 1, 2, 3, 4, 6, 7, 8, 9, 11, 12, 13, 14] [] (fun u hu => (.l (qg hu (qg (qC af.ch) (hI.blk.c 96) id) (fun h => by have := hI.blk.lt; omega)) (.l (qg hu (qg (qC af.ch) (hI.blk.c 107) id) (fun h => by have := hI.blk.lt; omega)) (.a (qT hu (qT (qC af.ch) (hI.blk.cs 98 9) id) (fun h => by have := hI.blk.lt; omega)) .z)))) <| yH 5 (yC (qP ep T.title (by omega)) ?_); rintro _ gz ⟨gA, gB, gC, rfl, er, gD, aD⟩; refine ⟨_, rfl, ?_⟩; have cj := aD.apart ci.lt az; have ck := af.trans aD; have cl := ci.ch aD.ch (fun h => az _ h rfl); refine qm aD.ch ((fun i _ h => af.new i h)) <| yH 10 (yC (qP er T.reply (by omega)) ?_); rintro _ gE ⟨gF, gG, gH, rfl, es, gI, aE⟩; refine ⟨_, rfl, ?_⟩; have et := aE.apart cl.lt cj; have b7 := ck.trans aE; have eu := cl.ch aE.ch (fun h => cj _ h rfl); refine qm aE.ch ((fun i _ h => ck.new i h)) <| yK 15 (yC (qkF es T.parser he.p pa pn pc (hI.ps.1.ch (qC b7.ch) iZ) hI.ps.2.1 (by rcases hI.pz with ⟨po, cm⟩; cases po with | none => exact .inl (by have h := hI.ps.1.1 (by rw [cm]; rfl); have Y := hI.ps.2.1; rw [List.map_eq_nil_iff] at h; rw [h] at Y; exact Y.symm) | some b => exact .inr ⟨b, 0, by rw [cm]; rfl⟩) (fun x hx b f hb e => by have h1 := b7.new x hx; have Y := hI.ps.2.2.2 _ hb; have h3 := hI.lt b (hI.inF.2.2.2.2 b Y); omega) (by omega)) ?_)
 rintro _ gK ⟨ev, ew, ex, rfl, ey, gL, cn⟩; refine ⟨_, rfl, ?_⟩; have gM := cn.apart eu.lt et; have co := b7.trans cn; refine q9 <| yd [16] [] .z <| yDe (nS ?_); refine qd (yR1 (.slice (ev.map at0) ew ex) ?_); refine ⟨_, _, _, rfl, ?_, by omega, co.new, qC co.ch⟩; have h := ey; unfold qet; unfold qbA; rw [← tabL_f]; simp only [qa0, qa9, List.append_assoc, List.append_nil, List.nil_append, Int.toNat_natCast] at h ⊢; have cp := congrArg List.length a7; rw [List.length_map, G.len] at cp; rw [← cp]; exact h
theorem u8_lit {w : World} {b : Nat} {l : List Int} (h : Rd w (some ⟨b, 0, none⟩) (u8s l)) (k : Nat) (hk : k < l.length) : w.cell? ⟨b, k, none⟩ = some (uX (l.getD k 0)) := by
 have := qme h hk; rwa [Int.toNat_natCast, Nat.mul_one, Nat.zero_add] at this
def fitE : List Int := qet (qaa zeroT 2 1)
theorem fitE_ok : 5 ≤ fitE.length ∧ fitE.getD 0 0 = 2 ∧ fitE.getD 3 0 = 1 ∧ fitE.length ≤ 1000 := by decide +kernel
def fitB : Bool := match qiI (some fitE) with
  | some T => decide (T.grid.w = 2) && decide (T.grid.lines.length = 1)
  | none => false
theorem fitB_ok : fitB = true := by decide +kernel
theorem fit_dec : ∃ T, qiI (some fitE) = some T ∧ T.grid.w = 2 ∧ T.grid.lines.length = 1 := by
 have h := fitB_ok; unfold fitB at h; cases e : qiI (some fitE) with
 | none => rw [e] at h; cases h
 | some T =>
  rw [e] at h; simp only [Bool.and_eq_true, decide_eq_true_eq] at h; exact ⟨T, rfl, h.1, h.2⟩
theorem curB0 : CurB cur0 := ⟨by decide, by decide, by decide⟩
theorem fit_enc : EncOk (qaa zeroT 2 1) := by
 have hl : ∀ l ∈ (qh6 2 1).lines, l.length ≤ 60 ∧ ∀ c ∈ l, cOk c := by
  have e : (qh6 2 1).lines = [[qx qcj, qx qcj]] := by kernel_rfl
  rw [e]; intro l hl; rw [List.mem_singleton.1 hl]; refine ⟨by decide, fun c hc => ?_⟩; have : c = qx qcj := by simpa using hc
  rw [this]; exact ⟨by decide, by decide, by decide⟩
 exact ⟨by decide, by decide, by decide, curB0, curB0, curB0, ⟨by decide, hl⟩, ⟨by decide, hl⟩, ⟨by decide, fun l hl => by cases hl⟩, by decide, by decide, ⟨by decide, by decide, by decide, (fun x hx => by cases hx), by decide, by decide, (fun x hx => by cases hx), by decide⟩⟩
theorem qib {l : List Int} {w : World} {o : Option Nat} {n cap : Nat} (h : Own w tU8 1 o n cap (u8s l)) : l.length = n := by
 have := h.1; rwa [u8s, List.length_map, Nat.mul_one] at this
theorem qmB : qd1 fitE := by
 have : fitE.all (fun x => decide (0 ≤ x) && decide (x ≤ 255)) = true := by decide +kernel
 intro x hx; have := List.all_eq_true.1 this x hx; simpa using this
set_option maxHeartbeats 4000000 in
theorem qmC (w : World) (hT : LT w) (h7 : gTop ≤ w.heap.size) : Calls Tryz.prog 9 [].toArray w fun e w' => e = .returned (.bool true) ∧ Ch (fun _ => False) w w' := by
 refine yA Tryz.func9 rfl <| yx 1 <| ysr <| yo (yC (qgL 2 1 _ (qw (zr w) hT (fun b h => h.elim)) (Nat.le_trans h7 (zs (zr w)))) ?_); rintro _ f ⟨t, rfl, A, D⟩; refine ⟨_, rfl, ?_⟩; have E : Ch (fun _ => False) w f := zt (zr w) D iZ; have F := A; obtain ⟨ga, qa, R, S, T, U, V, W, X, Y, Z, a0, m⟩ := F; obtain ⟨a1, a2, a3, a4⟩ := m.g1; obtain ⟨a5, a6, a7, a8⟩ := m.g2; refine yz 2 <| ys <| ysr <| yp 16 [] (.l (qg (zr f) (m.blk.c 0) id) (.l (qg (zr f) (m.blk.c 1) id) .z)) <| ye <| ycf <| yk <| ysr <| yq 1 <| yo (yC (qg9 (TermAt.ch A (zr f) iZ) fit_enc) ?_); rintro _ d ⟨a9, j, B, rfl, g, aa, ab, C⟩; refine ⟨_, rfl, ?_⟩; have p : Ch (fun _ => False) w d := zt E C iZ; have G : Ch (fun _ => False) f d := zt (zr f) C iZ; have H : fitE.length = j := qib g; obtain ⟨ob, rfl⟩ := qcw g (by have := fitE_ok.1; omega); have I : j ≤ B := g.2.1; obtain ⟨ac, ad, ae, af⟩ := fitE_ok; refine yz 3 <| ys <| ysr <| yq 4 <| yw [27] (rL ((j : Nat) : Int) 5) (fun q => ?_) fun q => ?_
 ·have ag := q; exfalso; omega
 have ah := q; refine yp 10 [] (.i 0 (j) (.l (o := 0) (qg (zr d) (u8_lit (l := fitE) (Own.rd g) 0 (by omega)) id) .z)) <| yw [33] (rI (fitE.getD 0 0) 2) (fun r => ?_) fun r => ?_
 ·have ai := r; exfalso; omega
 have aj := r; refine yp 15 [] (.i 3 (j) (.l (o := 3) (qg (zr d) (u8_lit (l := fitE) (Own.rd g) 3 (by omega)) id) .z)) <| ye <| yc (rI (fitE.getD 3 0) 1) (fun s => ?_) fun s => ?_
 ·have ak := s; exfalso; omega
 have al := s; refine yk <| ysr <| yq 1 ?_; obtain ⟨TD, J, am, an⟩ := fit_dec; refine yo (yC (qem ob (some ⟨ob, 0, none⟩) j B fitE (some TD) _ (qw p hT (fun b h => h.elim)) (Nat.le_trans h7 (zs p)) (Ch.rd (zr d) (Own.rd g) id) H I (.inr ⟨0, rfl⟩) qmB (by omega) (Nat.lt_of_lt_of_le g.lt (zs (zr d))) J) ?_); rintro _ a ⟨vd, xd, rfl, v, K⟩; refine ⟨_, rfl, ?_⟩; have L : Ch (fun _ => False) w a := zt p v iZ; have ao : Ch (fun _ => False) f a := zt G v iZ; have ap : Ch (fun _ => False) d a := zt (zr d) v iZ; obtain ⟨u, TU, M, rfl, rfl, N⟩ := K.resolve_left (fun h => by cases h.1); obtain rfl := zi M; have O := N; obtain ⟨gb, qb, aq, ar, au, av, aw, ax, ay, az, aA, aB, k⟩ := O; obtain ⟨aC, aD, P, n⟩ := k.g1; obtain ⟨aE, aF, aG, aH⟩ := k.g2; refine yz 7 <| ysr <| yp 31 [] (.l (qg (zr a) (k.blk.c 0) id) (.l (qg (zr a) (k.blk.c 1) id) (.l (qg (zr a) (k.blk.c 0) id) (.l (qg (zr a) (n.head.c 0) id) .z)))) <| yw [74] (rE TD.grid.w 2) (fun x => ?_) fun x => ?_
 ·have aI := x; refine yp 42 [] (.l (qg (zr a) (k.blk.c 0) id) (.l (qg (zr a) (n.head.c 2) id) .z)) <| ye <| qd (yR1 (.bool ((((P.length : Nat) : Int) : Int) == 1)) ?_); have y := congrArg List.length n.lines; rw [List.length_map] at y; refine ⟨zc ?_, L⟩
  first | rfl | (rw [beq_iff_eq]; omega)
 have aJ := x; exfalso; first | omega | (have y := n.lines; have Q := congrArg List.length y; rw [List.length_map] at Q; omega)
end Go.Proofs.YtclnfbmmaofpjaaGreatDoor.X

namespace Go.Proofs.YtclnfbmmaofpjaaGreatDoor.X
open Go Go.RowKit Go.Proofs.YtclnfbmmaofpjaaGreatDoor
set_option maxHeartbeats 4000000 in
theorem do_at {w : World} {t : Nat} {T : TS} {F : Nat → Prop} (hA : TermAt w t T F) (hT : LT w) (hf : Fine T) (x : Stp) (hx : x.text.size ≤ 1000000) : Calls Tryz.prog 17 [pX t, .agg #[.string x.text, iX x.w, iX x.h]].toArray w fun e w' => e = .returned (.tuple #[]) ∧ TermAt w' t (doT T x) (more F w w') ∧ Ch F w w' := by
 obtain ⟨⟨W, H, hL⟩, hp⟩ := hf; refine yA Tryz.func17 rfl <| ysr <| yo (yN [.string x.text, iX x.w, iX x.h] 37 fun m n j o a k => ?_); have p := zn j (zm w); have f := zu (zm w) k iZ; refine ye <| ys <| ysr <| yp 4 [] (.l (a.c 1) .z) <| yw [7] (rE x.w 0) (fun g => ?_) fun g => ?_
 ·refine yp 8 [] (.l (a.c 2) .z) <| ye <| yc (rE x.h 0) (fun i => ?_) fun i => ?_
  ·refine ysr <| yp 3 [] (.l (a.c 0) .z) ?_; have hq := Up.ch f; have b := hA.ch hq iZ; have d := qw hq hT (fun _ h => h.elim); refine yo (yQ (write_at b d hL hp x.text hx) ?_); rintro q ⟨hB, hc⟩; refine ye <| qd (rS (yR0 ?_)); exact ⟨rfl, TermAt.eq' (hB.mono (qs hq.size) (hA.moreOk (Nat.le_trans hq.size hc.size))) (if_pos ⟨g, i⟩), (hq.mono eZ).trans hc iZ⟩
  refine yk <| q7 <| yp 5 [] (.l (a.c 1) (.l (a.c 2) .z)) ?_; have hq := Up.ch f; have b := hA.ch hq iZ; have d := qw hq hT (fun _ h => h.elim); refine yo (yQ (qhN b d hL x.w x.h) ?_); rintro r ⟨hB, hc⟩; refine yE (qS ?_); exact ⟨rfl, TermAt.eq' (hB.mono (qs hq.size) (hA.moreOk (Nat.le_trans hq.size hc.size))) (if_neg (fun h => i h.2)), (hq.mono eZ).trans hc iZ⟩
 refine yz 8 <| ycf <| yk <| q7 <| yp 5 [] (.l (a.c 1) (.l (a.c 2) .z)) ?_; have hq := Up.ch f; have b := hA.ch hq iZ; have d := qw hq hT (fun _ h => h.elim); refine yo (yQ (qhN b d hL x.w x.h) ?_); rintro s ⟨hB, hc⟩; refine yE (qS ?_); exact ⟨rfl, TermAt.eq' (hB.mono (qs hq.size) (hA.moreOk (Nat.le_trans hq.size hc.size))) (if_neg (fun h => g h.1)), (hq.mono eZ).trans hc iZ⟩
theorem Sys.do {w0 w : World} {bs : List (Nat × List Value × TypeId)} {ts : List (Nat × TS)} (h : Sys w0 w bs ts) {i t : Nat} {T : TS} (hi : ts[i]? = some (t, T)) (x : Stp) (hx : x.text.size ≤ 1000000) : Calls Tryz.prog 17 [pX t, .agg #[.string x.text, iX x.w, iX x.h]].toArray w fun e w' => e = .returned (.tuple #[]) ∧ Sys w0 w' bs (ts.set i (t, doT T x)) :=
  h.step hi (fun F hA hl hf => do_at hA hl hf x hx) (fun hf => qlP hf x)
theorem qkG {st : List Stp} {k : Nat} (h : ∀ i : Nat, i < k → (gs st i).text.size ≤ 600) (hb : (gs st k).text.size ≤ 600) : ∀ i : Nat, i < k + 1 → (gs st i).text.size ≤ 600 := fun i hi => by
  rcases Nat.lt_or_ge i k with h' | h'
  · exact h i h'
  · obtain rfl : i = k := by omega
    exact hb
set_option maxHeartbeats 4000000 in
theorem qkH (sb so sc : Nat) (st : List Stp) (w : World) (hT : LT w) (h7 : gTop ≤ w.heap.size) (hst : Rd w (some ⟨sb, so, none⟩) (flatS st)) : Calls Tryz.prog 10 [.slice (some ⟨sb, so, none⟩) st.length sc].toArray w fun e w' => e = .returned (.bool (qfX st)) ∧ Ch (fun _ => False) w w' := by
 have hS := Sys.start hT h7; refine yA Tryz.func10 rfl <| yx 1 <| ys <| yx 3 <| yc (rL 40 ((st.length : Nat) : Int)) (fun f => ?_) fun f => ?_
 ·refine yx 1 <| qd (rS (yR1 (.bool false) ?_)); refine ⟨zc ?_, hS.ch⟩; exact (Bool.eq_false_iff.2 fun h => by have := (shortB_iff.1 h).1; omega).symm
 refine yk <| ys <| yx 3 <| q8 <| qa2 [8, 9, 10] (f' := [(8, .slice (some ⟨sb, so, none⟩) st.length sc), (9, iX ((st.length : Nat) : Int)), (10, iX 0)]) <| qy (σ := Nat) (fun k => [(8, .slice (some ⟨sb, so, none⟩) st.length sc), (9, iX ((st.length : Nat) : Int)), (10, iX ((k : Nat) : Int))]) (fun k wv => (k : Int) ≤ ((st.length : Nat) : Int) ∧ Sys w wv [] [] ∧ ∀ i : Nat, i < k → (gs st i).text.size ≤ 600) (fun k => (((st.length : Nat) : Int)).toNat - k) 0 rfl ?_ ?_
 ·exact ⟨by omega, hS, fun i hi => absurd hi (Nat.not_lt_zero i)⟩
 intro k p q A r; obtain ⟨B, b, j⟩ := q; replace b : Sys w p [] [] := b; refine yx 1 <| ys <| yc (rL ((k : Nat) : Int) ((st.length : Nat) : Int)) (fun f => ?_) fun f => ?_
 ·refine yk <| ys <| q8 <| ysr <| yp 2 [] (.i ((k : Nat) : Int) (st.length) (.m (s_text (k := k) (Ch.rd b.ch hst id) (by omega)) (.m (s_w (k := k) (Ch.rd b.ch hst id) (by omega)) (.m (s_h (k := k) (Ch.rd b.ch hst id) (by omega)) (.e .z))))) <| yo (yN [oX, iX 0, iX 0] 37 fun s d t C u v => ?_); have n : Sys w s [(d, [oX, iX 0, iX 0], 37)] [] := b.box v u (Nat.le_of_eq t.symm); refine yo (yS (n.blk 0 (d, [oX, iX 0, iX 0], 37) rfl) fun o x y => ?_); have g : Sys w o [(d, [.string (gs st k).text, iX (gs st k).w, iX (gs st k).h], 37)] [] := n.set 0 rfl y (Blk.to x (by kernel_rfl)); refine ye <| ysr <| yp 4 [] (.l ((g.blk 0 (d, [.string (gs st k).text, iX (gs st k).w, iX (gs st k).h], 37) rfl).c 0) .z) <| ye <| yc (rL 600 (((gs st k).text).size : Int)) (fun f => ?_) fun f => ?_
  ·refine yx 1 <| qd (rB (rS (qB (rB (rS (yR1 (.bool false) ?_)))))); refine ⟨zc ?_, g.ch⟩; exact (Bool.eq_false_iff.2 fun h => by have := (shortB_iff.1 h).2 k (by omega); omega).symm
  refine qr (nB (nS ?_)); refine q7 <| yp 2 [] (.q6 (((k : Nat) : Int) + 1) .z) <| yE (fun a ha => r (k + 1) _ ⟨by omega, (Sys.pre (bs' := [(d, [.string (gs st k).text, iX (gs st k).w, iX (gs st k).h], 37)]) (show Sys w o (_ ++ [(d, [.string (gs st k).text, iX (gs st k).w, iX (gs st k).h], 37)]) _ from g)), qkG j (by omega)⟩ (by omega) a (ha.kp [8, 9, 10]))
 refine qo (eS (qf (qe (nS ?_)))); refine yx 1 <| qd (yR1 (.bool true) ?_); refine ⟨zc ?_, b.ch⟩; exact (shortB_iff.2 ⟨by omega, fun i hi => j i (by omega)⟩).symm
set_option maxHeartbeats 4000000 in
theorem qmD (a : Option Addr) (sc : Nat) (w : World) (hT : LT w) (h7 : gTop ≤ w.heap.size) : Calls Tryz.prog 10 [.slice a 0 sc].toArray w fun e w' => e = .returned (.bool (qfX [])) ∧ Ch (fun _ => False) w w' := by
 have hS := Sys.start hT h7; refine yA Tryz.func10 rfl <| yx 1 <| ys <| yx 3 <| ycf <| yk <| ys <| yx 3 <| q8 <| yU 1 (yU1 ?_); refine yx 1 <| ys <| ycf <| qo (eS (qf (qe (nS ?_)))); refine yx 1 <| qd (yR1 (.bool true) ?_); exact ⟨rfl, hS.ch⟩
theorem qaj {lim : Int} {n : Nat} (r : List Int) (h : n < 2 ^ 63) (hl : 0 < lim → (n : Int) < lim) : qK lim (some (qZ n ++ r)) = ((n : Int), some r) := by
 rw [qK, qm2 r (by omega)]
 dsimp only
 have h0 : ¬ (qZ n).length = 0 := fun e => qm0 9 n (List.eq_nil_of_length_eq_zero e)
 rw [if_neg (by rintro (h | h | h); exact h0 h; omega; have := hl h.1; omega), List.drop_left' rfl]
theorem qd9 {most : Int} {x : ByteArray} (r : List Int) (h0 : 0 < most ∧ most ≤ 1000000) (h : (x.size : Int) ≤ most) : qaD most (some (qal x ++ r)) = (qj (qH x), some r) := by
 unfold qaD qal
 rw [if_pos h0.1, List.append_assoc, qaj _ (by omega) (fun _ => by omega)]
 dsimp only
 have hl := qcC x
 rw [if_neg (by rw [List.length_append]; omega), Int.toNat_natCast, ← hl, List.take_left' rfl, List.drop_left' rfl]
theorem qev (x : ByteArray) : qj (qH x) = x := by
 have : (qj (qH x)).data.toList = x.data.toList := by
  rw [qc5]
  unfold qH
  rw [List.map_map]
  refine (List.map_congr_left fun b _ => ?_).trans (List.map_id _)
  show UInt8.ofNat ((b.toNat : Int).toNat) = b
  rw [Int.toNat_natCast]; exact UInt8.ofNat_toNat
 cases hA : qj (qH x) with
 | mk a =>
  rw [hA] at this
  cases x with
  | mk b => exact congrArg ByteArray.mk (Array.toList_inj.1 this)
theorem qjG {s : Sty} (r : List Int) (h : qz s = true) : qes (some (qZ (qbp s) ++ r)) = (s, true, some r) := by
 have hb := qdY h
 unfold qes
 rw [qaj r (by omega) (fun _ => by omega)]
 dsimp only
 rw [Int.toNat_natCast, qiG s h, if_pos (by rw [h]; rfl)]
theorem qh1 {W H : Int} {c : Cur} (r : List Int) (hc : CurOk W H c) (hW : W ≤ 60) (hH : H ≤ 60) : qh7 W H (some (qbC c ++ r)) = (c, true, some r) := by
 obtain ⟨x, y, l, s⟩ := c
 obtain ⟨hx, hy, hl, hs⟩ := hc
 dsimp only at hx hy hl hs
 have e1 : qK W (some (qbC ⟨x, y, l, s⟩ ++ r)) = (x, some (qZ y.toNat ++ (qZ (qG [l]) ++ (qZ (qbp s) ++ r)))) := by
  unfold qbC
  simp only [List.append_assoc]
  rw [qaj _ (by omega) (fun _ => by omega), Int.toNat_of_nonneg hx.1]
 have e2 : qK H (some (qZ y.toNat ++ (qZ (qG [l]) ++ (qZ (qbp s) ++ r)))) = (y, some (qZ (qG [l]) ++ (qZ (qbp s) ++ r))) := by
  rw [qaj _ (by omega) (fun _ => by omega), Int.toNat_of_nonneg hy.1]
 have hf : qG [l] = if l = true then 1 else 0 := by cases l <;> rfl
 have e3 : qK 2 (some (qZ (qG [l]) ++ (qZ (qbp s) ++ r))) = (((qG [l] : Nat) : Int), some (qZ (qbp s) ++ r)) := qaj _ (by rw [hf]; split <;> omega) (fun _ => by rw [hf]; split <;> omega)
 rw [qaH e1 e2 e3 (qjG r hs)]
 have e4 : (((qG [l] : Nat) : Int) == 1) = l := by rw [hf]; cases l <;> rfl
 rw [e4]
 cases l with
 | false => rfl
 | true =>
  have := hl rfl
  rw [this]
  simp
theorem qe2 (c : Cel) : ∀ (l : List Cel), ∃ n r, c :: l = List.replicate (n + 1) c ++ r ∧ r.head? ≠ some c
 | [] => ⟨0, [], rfl, by simp⟩
 | d :: l => by
  by_cases h : d = c
  ·subst h
   obtain ⟨n, r, e, hr⟩ := qe2 d l
   exact ⟨n + 1, r, by rw [List.replicate_succ, List.cons_append, ← e], hr⟩
  ·exact ⟨0, d :: l, rfl, by simp [h]⟩
theorem qic : ∀ (f : Nat) (W : Int) (out l : List Cel) (r : List Int), (∀ c ∈ l, cOk c) → ((out.length + l.length : Nat) : Int) = W → W ≤ 1000 → l.length ≤ f → (l = [] ∨ out.getLast? ≠ l.head?) → qbE f W out (some (qQ l ++ r)) = (some (out ++ l), some r)
 | f, W, out, [], r, _, hW, _, _, _ => by
  rw [qcv (by simp at hW; omega), List.append_nil]; rfl
 | 0, W, out, c :: l, r, _, _, _, hf, _ => by simp at hf
 | f + 1, W, out, c :: l, r, hc, hW, hW2, hf, hne => by
  obtain ⟨n, l', e, hl'⟩ := qe2 c l
  have hlen : (c :: l).length = (n + 1) + l'.length := by rw [e, List.length_append, List.length_replicate]
  have hcc := hc c (List.mem_cons_self ..)
  obtain ⟨h1, h2, h3⟩ := hcc
  have hne2 : out.getLast? ≠ some c := hne.resolve_left (by simp)
  rw [e, qd4 hl' n]
  have hno : ¬ W ≤ (out.length : Int) := by rw [hlen] at hW; omega
  have hlim : (0 : Int) < W - (out.length : Int) + 1 → (((n + 1 : Nat)) : Int) < W - (out.length : Int) + 1 := fun _ => by rw [hlen] at hW; omega
  have e1 : qK (W - (out.length : Int) + 1) (some ((qd3 (n + 1) c ++ qQ l') ++ r)) = (((n + 1 : Nat) : Int), some (qZ c.rune.toNat ++ (qZ (qbp c.sty) ++ (qQ l' ++ r)))) := by
   unfold qd3
   simp only [List.append_assoc]
   exact qaj _ (by rw [hlen] at hW; omega) hlim
  have e2 : qK 1114112 (some (qZ c.rune.toNat ++ (qZ (qbp c.sty) ++ (qQ l' ++ r)))) = (c.rune, some (qZ (qbp c.sty) ++ (qQ l' ++ r))) := by
   rw [qaj _ (by omega) (fun _ => by omega), Int.toNat_of_nonneg h2]
  have e3 := qjG (qQ l' ++ r) h1
  have hS := qc7 (W := W) (out := out) e1 e2 e3
  rw [if_neg (by rintro (h | h | h); cases h; omega; exact hne2 h)] at hS
  rw [qbE, if_neg hno, hS]
  dsimp only
  rw [Int.toNat_natCast]
  have ih := qic f W (out ++ List.replicate (n + 1) c) l' r (fun d hd => hc d (by rw [e]; exact List.mem_append_right _ hd)) (by rw [List.length_append, List.length_replicate]; rw [hlen] at hW; omega) hW2 (by omega) (by
   cases l' with
   | nil => exact .inl rfl
   | cons d l' =>
    right
    have : (out ++ List.replicate (n + 1) c).getLast? = some c := by rw [List.replicate_succ', ← List.append_assoc, List.getLast?_append]; rfl
    rw [this]
    exact fun h => hl' h.symm)
  rw [show (⟨c.rune, c.sty⟩ : Cel) = c from rfl, ih, List.append_assoc]
theorem qmE {W : Int} {l : List Cel} (r : List Int) (hc : ∀ c ∈ l, cOk c) (hl : (l.length : Int) = W) (hW : W ≤ 1000) (hw : qaT l = true) : qd5 W (some (qQ l ++ r)) = (l, true, some r) := by
 have := qic W.toNat W [] l r hc (by simpa using hl) hW (by omega) (by
  cases l with
  | nil => exact .inl rfl
  | cons c l => exact .inr (by simp))
 unfold qd5
 rw [this, List.nil_append]
 dsimp only
 rw [if_pos hw]
def LnOk (W : Int) (l : List Cel) : Prop := (l.length : Int) = W ∧ qaT l = true ∧ ∀ c ∈ l, cOk c
theorem qdl {W : Int} (hW : W ≤ 1000) : ∀ (L out : List (List Cel)) (r : List Int), (∀ l ∈ L, LnOk W l) → qac W L.length out (some (L.flatMap qQ ++ r)) true = (out ++ L, some r, true)
 | [], out, r, _ => by rw [List.append_nil]; rfl
 | l :: L, out, r, h => by
  obtain ⟨h1, h2, h3⟩ := h l (List.mem_cons_self ..)
  rw [List.length_cons, qac, List.flatMap_cons, List.append_assoc, qmE _ h3 h1 hW h2]
  dsimp only
  rw [if_pos (show (true && true) = true from rfl), qdl hW L _ r (fun m hm => h m (List.mem_cons_of_mem _ hm)), List.append_assoc]
  rfl
theorem qid : ∀ (B out : List (List Cel)) (r : List Int), (∀ l ∈ B, 0 < l.length ∧ l.length ≤ 60 ∧ qaT l = true ∧ ∀ c ∈ l, cOk c) → qdv B.length out (some (qbA B ++ r)) true = (out ++ B, some r, true)
 | [], out, r, _ => by rw [List.append_nil]; rfl
 | l :: B, out, r, h => by
  obtain ⟨h0, h1, h2, h3⟩ := h l (List.mem_cons_self ..)
  have e : qbA (l :: B) ++ r = qZ l.length ++ (qQ l ++ (qbA B ++ r)) := by unfold qbA; simp
  have e1 := qaj (lim := 61) (n := l.length) (qQ l ++ (qbA B ++ r)) (by omega) (fun _ => by omega)
  have e2 := qdl (W := (l.length : Int)) (by omega) [l] [] (qbA B ++ r) (fun m hm => by rw [List.mem_singleton.1 hm]; exact ⟨rfl, h2, h3⟩)
  have e3 : [l].flatMap qQ ++ (qbA B ++ r) = qQ l ++ (qbA B ++ r) := by simp
  rw [e3] at e2
  rw [e, List.length_cons, qdv, e1]
  dsimp only
  rw [show qac (l.length : Int) 1 [] (some (qQ l ++ (qbA B ++ r))) true = _ from e2]
  dsimp only
  rw [if_pos (by rw [decide_eq_true (show (0 : Int) < (l.length : Int) by omega)]; rfl), qid B _ r (fun m hm => h m (List.mem_cons_of_mem _ hm))]
  simp
theorem qmF {B : List (List Cel)} (r : List Int) (hB : B.length ≤ 20) (h : ∀ l ∈ B, 0 < l.length ∧ l.length ≤ 60 ∧ qaT l = true ∧ ∀ c ∈ l, cOk c) : qey (some (qZ B.length ++ (qbA B ++ r))) true = (B, some r, true) := by
 unfold qey
 rw [qaj _ (by omega) (fun _ => by omega)]
 dsimp only
 rw [Int.toNat_natCast, qid B [] r h]; rfl
theorem qie : ∀ (q l : List Int) (r : List Int), (∀ x ∈ q, 0 ≤ x ∧ x ≤ 9999) → qbY q.length l (some (q.flatMap (fun n => qZ n.toNat) ++ r)) = (l ++ q, some r)
 | [], l, r, _ => by rw [List.append_nil]; rfl
 | x :: q, l, r, h => by
  have hx := h x (List.mem_cons_self ..)
  rw [List.length_cons, qbY, List.flatMap_cons, List.append_assoc, qaj _ (by omega) (fun _ => by omega)]
  dsimp only
  rw [Int.toNat_of_nonneg hx.1, qie q _ r (fun y hy => h y (List.mem_cons_of_mem _ hy)), List.append_assoc]
  rfl
theorem qmG {u : US} (h : utB u = true) (ho : u.ok) : mkU u.pend = u := by
 obtain ⟨a, b, c, n⟩ := u
 unfold utB at h
 simp only [Bool.and_eq_true, decide_eq_true_eq] at h
 obtain ⟨⟨⟨h0, h3⟩, hz⟩, _⟩ := h
 have hn : n = 0 ∨ n = 1 ∨ n = 2 ∨ n = 3 := by omega
 unfold mkU US.pend
 rcases hn with rfl | rfl | rfl | rfl
 ·simp at hz ⊢; omega
 ·simp at hz ⊢; omega
 ·simp at hz ⊢; omega
 ·simp
theorem qmH {p : PS} (h : qq p = true) : utB p.utf = true := by
 unfold qq at h
 split at h
 ·cases h
 ·rename_i h1
  split at h
  ·simp only [Bool.and_eq_true] at h
   exact h.1.1
  ·rename_i h2
   have hb : qce p.utf = true := by
    cases e : qce p.utf with
    | true => rfl
    | false => exact absurd (.inr ⟨h2, e⟩) h1
   unfold qce at hb
   simp only [Bool.and_eq_true, beq_iff_eq] at hb
   obtain ⟨⟨⟨e0, e1⟩, e2⟩, e3⟩ := hb
   unfold utB US.pend
   rw [e0, e1, e2, e3]
   decide
theorem qmI {p : PS} (r : List Int) (h : ParsOk p) : qgU (some (qbi p ++ r)) true = (p, some r, true) := by
 obtain ⟨st, u, m, q, x, wi⟩ := p
 obtain ⟨h1, h2, h3, h4, h5, h6, h7, h8, h9⟩ := h
 dsimp only at h1 h2 h3 h4 h5 h6 h7 h8
 have hut : mkU u.pend = u := qmG (qmH h9) h3
 have hpe : (qj u.pend).size = u.pend.length := qb5 _
 have hpb : qH (qj u.pend) = u.pend := qm3 h3.pend
 have e1 : qK 8 (some (qbi ⟨st, u, m, q, x, wi⟩ ++ r)) = (st, some (qZ wi.toNat ++ (qal (qj u.pend) ++ (qal m ++ (qZ q.length ++ (q.flatMap (fun n => qZ n.toNat) ++ (qal x ++ r))))))) := by
  unfold qbi
  simp only [List.append_assoc]
  rw [qaj _ (by omega) (fun _ => by omega), Int.toNat_of_nonneg h1.1]
 have e2 : qK 8 (some (qZ wi.toNat ++ (qal (qj u.pend) ++ (qal m ++ (qZ q.length ++ (q.flatMap (fun n => qZ n.toNat) ++ (qal x ++ r))))))) = (wi, some (qal (qj u.pend) ++ (qal m ++ (qZ q.length ++ (q.flatMap (fun n => qZ n.toNat) ++ (qal x ++ r)))))) := by
  rw [qaj _ (by omega) (fun _ => by omega), Int.toNat_of_nonneg h2.1]
 have e3 := qd9 (most := 3) (x := qj u.pend) (qal m ++ (qZ q.length ++ (q.flatMap (fun n => qZ n.toNat) ++ (qal x ++ r)))) (by decide) (by omega)
 have e4 := qd9 (most := 2) (x := m) (qZ q.length ++ (q.flatMap (fun n => qZ n.toNat) ++ (qal x ++ r))) (by decide) (by omega)
 have e5 := qaj (lim := 9) (n := q.length) (q.flatMap (fun n => qZ n.toNat) ++ (qal x ++ r)) (by omega) (fun _ => by omega)
 have e6 := qie q [] (qal x ++ r) h7
 have e7 := qd9 (most := 40) (x := x) r (by decide) (by omega)
 rw [qev] at e3 e4 e7
 rw [qc8 e1 e2 e3 e4 e5 (by rw [Int.toNat_natCast]; exact e6) e7, hpb, hut, List.nil_append, h9]
 rfl
theorem qmJ {T T' : TS} {W H : Int} (r : List Int) (h : DecOk T') (hW : T'.grid.w = W) (hH : T'.grid.h = H) :
  qi1 T W H (some ((qbC T'.cursor ++ (qbC T'.saved ++ (qbC T'.away ++ (T'.grid.lines.flatMap qQ ++ (T'.other.lines.flatMap qQ ++ (qZ T'.back.length ++ (qbA T'.back ++ (qal T'.title ++ (qal T'.reply ++ qbi T'.parser))))))))) ++ r)) =
   if r = [] then some { T with cursor := T'.cursor, saved := T'.saved, away := T'.away, grid := T'.grid, other := T'.other, back := T'.back, title := T'.title, reply := T'.reply, parser := T'.parser } else none := by
 obtain ⟨dw, dh, ⟨dow, doh⟩, dt, dc, ds, da, dg, dg2, dk, dti, dr, dp⟩ := h
 subst hW hH
 have e1 := qh1 (qbC T'.saved ++ (qbC T'.away ++ (T'.grid.lines.flatMap qQ ++ (T'.other.lines.flatMap qQ ++ (qZ T'.back.length ++ (qbA T'.back ++ (qal T'.title ++ (qal T'.reply ++ (qbi T'.parser ++ r))))))))) dc dw.2 dh.2
 have e2 := qh1 (qbC T'.away ++ (T'.grid.lines.flatMap qQ ++ (T'.other.lines.flatMap qQ ++ (qZ T'.back.length ++ (qbA T'.back ++ (qal T'.title ++ (qal T'.reply ++ (qbi T'.parser ++ r)))))))) ds dw.2 dh.2
 have e3 := qh1 (T'.grid.lines.flatMap qQ ++ (T'.other.lines.flatMap qQ ++ (qZ T'.back.length ++ (qbA T'.back ++ (qal T'.title ++ (qal T'.reply ++ (qbi T'.parser ++ r))))))) da dw.2 dh.2
 have e4 := qdl (W := T'.grid.w) (by omega) T'.grid.lines [] (T'.other.lines.flatMap qQ ++ (qZ T'.back.length ++ (qbA T'.back ++ (qal T'.title ++ (qal T'.reply ++ (qbi T'.parser ++ r)))))) dg.2
 have e5 := qdl (W := T'.grid.w) (by omega) T'.other.lines [] (qZ T'.back.length ++ (qbA T'.back ++ (qal T'.title ++ (qal T'.reply ++ (qbi T'.parser ++ r))))) dg2.2
 have e6 := qmF (B := T'.back) (qal T'.title ++ (qal T'.reply ++ (qbi T'.parser ++ r))) dk.1 dk.2
 have e7 := qd9 (most := 40) (x := T'.title) (qal T'.reply ++ (qbi T'.parser ++ r)) (by decide) (by omega)
 have e8 := qd9 (most := 400) (x := T'.reply) (qbi T'.parser ++ r) (by decide) (by omega)
 have e9 := qmI r dp
 rw [qev] at e7 e8
 rw [dg.1] at e4
 rw [dg2.1] at e5
 simp only [List.append_assoc]
 unfold qi1
 rw [e1]
 dsimp only
 rw [e2]
 dsimp only
 rw [e3]
 dsimp only
 rw [show ((true && true) && true) = true from rfl, e4]
 dsimp only
 rw [e5]
 dsimp only
 rw [e6]
 dsimp only
 rw [e7]
 dsimp only
 rw [e8]
 dsimp only
 rw [e9]
 dsimp only
 rw [List.nil_append, List.nil_append]
 have eg : (⟨T'.grid.w, T'.grid.h, T'.grid.lines⟩ : Gr) = T'.grid := rfl
 have eo : (⟨T'.grid.w, T'.grid.h, T'.other.lines⟩ : Gr) = T'.other := by
  rw [← dow, ← doh]
 rw [eg, eo]
 by_cases hr : r = []
 ·rw [if_pos hr, if_pos ⟨rfl, by rw [hr]⟩]
 ·rw [if_neg hr, if_neg (by rintro ⟨_, h⟩; exact hr (Option.some.inj h))]
def backT (T : TS) : TS := { T with tabs := qgV (qai T.tabs 60) 60 }
theorem qfm (f : Nat → Bool) : ∀ (k i : Nat), i < k → qdA (qai f k) i = f i
 | 0, i, h => by omega
 | k + 1, i, h => by
  have hlt := qbg f k
  rw [qai]
  unfold qdA
  by_cases hi : i = k
  ·subst hi
   cases hf : f i with
   | true =>
    rw [if_pos rfl, Nat.add_div_right _ (Nat.pow_pos (by decide)), Nat.div_eq_of_lt hlt]; rfl
   | false =>
    simp only [Bool.false_eq_true, ↓reduceIte, Nat.add_zero]
    rw [Nat.div_eq_of_lt hlt]; rfl
  ·have ih := qfm f k i (by omega)
   unfold qdA at ih
   rw [← ih]
   split
   ·have e : 2 ^ k = 2 ^ i * (2 * 2 ^ (k - i - 1)) := by
     rw [← Nat.pow_succ', ← Nat.pow_add]
     congr 1; omega
    rw [e, Nat.add_mul_div_left _ _ (Nat.pow_pos (by decide)), Nat.add_mul_mod_self_left]
   ·rw [Nat.add_zero]
theorem qjH {T : TS} (h : DecOk T) (r : List Int) : qiI (some (qet T ++ r)) = if r = [] then some (backT T) else none := by
 have hw := h.w
 have hh := h.h
 have ht := h.t
 have hfl : qG (qbn T) < 2 ^ 8 := qbg _ 8
 have htb := qbg T.tabs 60
 have e : qet T ++ r = qZ T.grid.w.toNat ++ (qZ T.grid.h.toNat ++ (qZ T.top.toNat ++ (qZ T.bot.toNat ++ (qZ (qG (qbn T)) ++ (qZ (qai T.tabs 60) ++ ((qbC T.cursor ++ (qbC T.saved ++ (qbC T.away ++ (T.grid.lines.flatMap qQ ++ (T.other.lines.flatMap qQ ++ (qZ T.back.length ++ (qbA T.back ++ (qal T.title ++ (qal T.reply ++ qbi T.parser))))))))) ++ r)))))) := by
  unfold qet
  simp only [List.append_assoc]
 rw [e]
 generalize hR : (qbC T.cursor ++ (qbC T.saved ++ (qbC T.away ++ (T.grid.lines.flatMap qQ ++ (T.other.lines.flatMap qQ ++ (qZ T.back.length ++ (qbA T.back ++ (qal T.title ++ (qal T.reply ++ qbi T.parser))))))))) ++ r = R
 have e1 := qaj (lim := 61) (n := T.grid.w.toNat) (qZ T.grid.h.toNat ++ (qZ T.top.toNat ++ (qZ T.bot.toNat ++ (qZ (qG (qbn T)) ++ (qZ (qai T.tabs 60) ++ R))))) (by omega) (fun _ => by omega)
 have e2 := qaj (lim := 61) (n := T.grid.h.toNat) (qZ T.top.toNat ++ (qZ T.bot.toNat ++ (qZ (qG (qbn T)) ++ (qZ (qai T.tabs 60) ++ R)))) (by omega) (fun _ => by omega)
 have e3 := qaj (lim := T.grid.h + 1) (n := T.top.toNat) (qZ T.bot.toNat ++ (qZ (qG (qbn T)) ++ (qZ (qai T.tabs 60) ++ R))) (by omega) (fun _ => by omega)
 have e4 := qaj (lim := T.grid.h + 1) (n := T.bot.toNat) (qZ (qG (qbn T)) ++ (qZ (qai T.tabs 60) ++ R)) (by omega) (fun _ => by omega)
 have e5 := qaj (lim := 256) (n := qG (qbn T)) (qZ (qai T.tabs 60) ++ R) (by omega) (fun _ => by omega)
 have e6 := qaj (lim := 1152921504606846976) (n := qai T.tabs 60) R (by omega) (fun _ => by omega)
 rw [Int.toNat_of_nonneg (by omega)] at e1 e2 e3 e4
 unfold qiI
 rw [qcE e1 e2 e3 e4 e5 e6, if_neg (by rintro (h | h | h | h); cases h; omega; omega; omega)]
 dsimp only
 have hgw : (qeA T.grid.w T.grid.h T.top T.bot ((qG (qbn T) : Nat) : Int) ((qai T.tabs 60 : Nat) : Int)).grid.w = T.grid.w := by show qk T.grid.w = _; unfold qk; omega
 have hgh : (qeA T.grid.w T.grid.h T.top T.bot ((qG (qbn T) : Nat) : Int) ((qai T.tabs 60 : Nat) : Int)).grid.h = T.grid.h := by show qk T.grid.h = _; unfold qk; omega
 rw [hgw, hgh, ← hR, qmJ r h rfl rfl]
 have hm : ∀ i, i < 8 → qdA (qG (qbn T)) i = lb (qbn T) i := fun i hi => qfm _ 8 i hi
 by_cases hr : r = []
 ·rw [if_pos hr, if_pos hr]
  refine congrArg some ?_
  unfold qeA backT
  simp only [Int.toNat_natCast]
  rw [hm 0 (by decide), hm 1 (by decide), hm 2 (by decide), hm 3 (by decide), hm 4 (by decide), hm 5 (by decide), hm 6 (by decide), hm 7 (by decide)]
  rfl
 ·rw [if_neg hr, if_neg hr]
theorem qif {T : TS} (h : DecOk T) {r : List Int} (hr : r ≠ []) : qiI (some (qet T ++ r)) = none := by rw [qjH h r, if_neg hr]
theorem decT_cut {T : TS} (h : DecOk T) (hb : qd1 (qet T)) {k : Nat} (hk : k < (qet T).length) : qiI (some ((qet T).take k)) = none := by
 cases e : qiI (some ((qet T).take k)) with
 | none => rfl
 | some T' =>
  obtain ⟨ys, e1, e2, hd⟩ := qi2 (fun x hx => by cases hx; exact qfb hb k) e
  obtain rfl := Option.some.inj e1
  have e3 := qjH h []
  rw [List.append_nil, if_pos rfl, ← List.take_append_drop k (qet T), e2, qif hd (by
   intro hn
   have := congrArg List.length hn
   rw [List.length_drop] at this
   simp at this
   omega)] at e3
  cases e3
theorem qjI : zb ByteArray.empty = true := beq_self_eq_true _
theorem qiT {n : Nat} {p : Nat → Bool} (h : ∀ i, i < n → p i = true) : (List.range n).all p = true := List.all_eq_true.2 fun i hi => h i (List.mem_range.1 hi)
theorem qmK {c : Int} (h : lowM c) : qiH c = true := by unfold qiH; simp [h.1, h.2]
theorem qmL {c : Int} (h : wideM c) : qbJ c = true := by
 unfold qbJ
 rcases h with h | h
 ·rw [qmK h]; rfl
 ·simp [h.1, h.2]
theorem utB_of {u : US} (h : uR u) : utB u = true := by
 obtain ⟨a, b, c, n⟩ := u
 obtain ⟨⟨h1, h2⟩, h3, h4, h5, h6⟩ := h
 dsimp only at h1 h2 h3 h4 h5 h6
 have hn : n = 0 ∨ n = 1 ∨ n = 2 ∨ n = 3 := by omega
 unfold utB
 rcases hn with rfl | rfl | rfl | rfl
 ·rw [h3 (by decide), h4 (by decide), h5 (by decide)]; decide
 ·rw [h4 (by decide), h5 (by decide)] at h6 ⊢
  have := h6.resolve_left (by decide)
  simp [this]
 ·rw [h5 (by decide)] at h6 ⊢
  have := h6.resolve_left (by decide)
  simp [this]
 ·have := h6.resolve_left (by decide)
  simp [this]
theorem qkI {p : PS} (h : PRight p) (hl : p.lim) : qq p = true := by
 have hst := h.st
 have hb : p.state ≠ 0 → qce p.utf = true := fun e => by rw [h.u e]; decide
 have hm : p.state ≠ 2 → p.state ≠ 3 → p.state ≠ 4 → zb p.marks = true := fun a b c => by rw [h.m a b c]; exact qjI
 have hn : p.state ≠ 3 → p.state ≠ 4 → (p.params.length == 0) = true := fun a b => by rw [h.n a b]; rfl
 have ht : p.state ≤ 4 → zb p.text = true := fun a => by rw [h.t a]; exact qjI
 have hx : qek p.text = true := by
  unfold qek
  rw [qiT fun i hi => decide_eq_true (h.t5 i hi), decide_eq_true hl.t]; rfl
 have hq : qez p.params = true := by
  unfold qez
  rw [decide_eq_true hl.n, Bool.and_true]
  exact List.all_eq_true.2 fun x hx => by have := hl.b x hx; simp [this.1, this.2]
 have hw0 := h.wi
 unfold qq qbB
 rw [if_neg (by
  rintro (⟨a, b⟩ | ⟨a, b⟩)
  ·exact b (hw0 a)
  ·rw [hb a] at b; cases b)]
 by_cases s0 : p.state = 0
 ·rw [if_pos s0, utB_of h.u', hm (by omega) (by omega) (by omega), hn (by omega) (by omega), ht (by omega)]; rfl
 rw [if_neg s0]
 by_cases s1 : p.state = 1
 ·rw [if_pos s1, hm (by omega) (by omega) (by omega), hn (by omega) (by omega), ht (by omega)]; rfl
 rw [if_neg s1]
 by_cases s2 : p.state = 2
 ·obtain ⟨m1, m2⟩ := h.m2 s2
  rw [if_pos s2, hn (by omega) (by omega), ht (by omega)]
  unfold qb6
  rw [decide_eq_true m1, decide_eq_true hl.m, qiT fun i hi => qmK (m2 i hi)]; rfl
 rw [if_neg s2]
 by_cases s3 : p.state = 3 ∨ p.state = 4
 ·rw [if_pos s3, hq, ht (by omega)]
  unfold qb6
  rw [decide_eq_true (Nat.zero_le _), decide_eq_true hl.m, qiT fun i hi => qmL (h.m3 s3 i hi)]; rfl
 rw [if_neg s3]
 by_cases s7 : p.state = 7
 ·rw [if_pos s7, if_neg (by have := h.wc s7; omega), hm (by omega) (by omega) (by omega), hn (by omega) (by omega), hx]; rfl
 rw [if_neg s7, if_pos (by omega), hm (by omega) (by omega) (by omega), hn (by omega) (by omega), hx]; rfl
theorem qmM {p : PS} (h : PRight p) (hl : p.lim) : ParsOk p := by
 have hst := h.st
 refine ⟨by omega, ?_, hl.u, ⟨hl.u.len.symm, by rw [hl.u.len]; have := hl.u.n; omega⟩, hl.m, hl.n, hl.b, hl.t, qkI h hl⟩
 by_cases e : p.state = 7
 ·have := h.wc e; omega
 ·have := h.wi e; omega
theorem cOk_of {c : Cel} (h : celO c) : cOk c := by
 obtain ⟨h1, h2⟩ := h
 refine ⟨h1, ?_⟩
 rcases h2 with h2 | h2
 ·omega
 ·unfold qbv at h2
  simp only [Bool.and_eq_true, Bool.or_eq_true, decide_eq_true_eq, bne_iff_ne, Bool.not_eq_true', decide_eq_false_iff_not] at h2
  omega
theorem decOk_of {W H : Int} {T : TS} (h : Okt true W H T) (hp : PRight T.parser) (hl : T.parser.lim) : DecOk T := by
 obtain ⟨⟨hW, hH, ⟨g1, g1'⟩, ⟨g2, g2'⟩, cu, sa, aw, tb, bk, rp⟩, hg, ho, hb, cs, cl, ss, sl, ay, al, ti⟩ := h
 subst g1 g1'
 have hline : ∀ {G : Gr}, okD G → G.w = T.grid.w → ∀ l ∈ G.lines, (l.length : Int) = T.grid.w ∧ qaT l = true ∧ ∀ c ∈ l, cOk c := fun hG e l hl' => by
  have h1 := hG.wid l hl'
  have h2 := hG.ok l hl'
  exact ⟨by rw [h1]; omega, h2.2, fun c hc => cOk_of (h2.1 c hc)⟩
 refine ⟨hW, hH, ⟨g2, g2'⟩, tb, ⟨cu.1, cu.2, cl rfl, cs⟩, ⟨sa.1, sa.2, sl, ss⟩, ⟨aw.1, aw.2, al, ay⟩, ⟨hg.len, hline hg rfl⟩, ⟨by rw [ho.len, g2'], hline ho g2⟩, ⟨bk, fun l hl' => ?_⟩, ti, rp, qmM hp hl⟩
 obtain ⟨h1, h2, h3⟩ := hb l hl'
 exact ⟨List.length_pos_iff.2 h2, h3, h1.2, fun c hc => cOk_of (h1.1 c hc)⟩
theorem qad {n : Nat} (h : n < 2 ^ 64) : qd1 (qZ n) := qhV 9 n (Nat.lt_of_lt_of_le h (by decide))
theorem qe3 {x : ByteArray} (h : x.size < 2 ^ 64) : qd1 (qal x) := qF (qad h) (qd2 x)
theorem qda {α : Type} {f : α → List Int} : ∀ {l : List α}, (∀ x ∈ l, qd1 (f x)) → qd1 (l.flatMap f)
  | [], _ => fun x hx => by cases hx
  | a :: l, h => by rw [List.flatMap_cons]; exact qF (h a (List.mem_cons_self ..)) (qda fun x hx => h x (List.mem_cons_of_mem _ hx))
theorem qmN {n : Nat} {c : Cel} (hn : n < 2 ^ 64) (h : cOk c) : qd1 (qd3 n c) := by
  obtain ⟨a, b, d⟩ := h; have := qdY a; exact qF (qad hn) (qF (qad (by omega)) (qad (by omega)))
theorem qe4 : ∀ (f : Nat) (l : List Cel), l.length ≤ f → f < 2 ^ 60 → (∀ c ∈ l, cOk c) → qd1 (qQ l)
  | _, [], _, _, _ => fun x hx => by cases hx
  | 0, c :: l, hf, _, _ => by simp at hf
  | f + 1, c :: l, hf, hb, hc => by
    obtain ⟨n, l', e, hl'⟩ := qe2 c l
    have hlen : (c :: l).length = (n + 1) + l'.length := by rw [e, List.length_append, List.length_replicate]
    rw [e, qd4 hl' n]
    exact qF (qmN (by omega) (hc c (List.mem_cons_self ..))) (qe4 f l' (by omega) (by omega) fun d hd => hc d (by rw [e]; exact List.mem_append_right _ hd))
theorem qh2 {W H : Int} {c : Cur} (hc : CurOk W H c) (hW : W ≤ 60) (hH : H ≤ 60) : qd1 (qbC c) := by
  obtain ⟨b, d, e, a⟩ := hc; have := qdY a; have := qbg (fun i => [c.late].getD i false) 1; exact qF (qad (by omega)) (qF (qad (by omega)) (qF (qad (by unfold qG; cases c.late <;> decide)) (qad (by omega))))
theorem qmO {p : PS} (h : ParsOk p) : qd1 (qbi p) := by
  obtain ⟨b, c, d, e, f, g, a, i, j⟩ := h; have := qb5 p.utf.pend; refine qF (qad (by omega)) (qF (qad (by omega)) (qF (qe3 (by omega)) (qF (qe3 (by omega)) (qF (qad (by omega)) (qF (qda fun x hx => ?_) (qe3 (by omega))))))); have := a x hx; exact qad (by omega)
theorem byts_enc {T : TS} (h : DecOk T) : qd1 (qet T) := by
  obtain ⟨dw, dh, ⟨d, e⟩, dt, dc, ds, da, dg, c, dk, f, dr, dp⟩ := h; have g : qG (qbn T) < 2 ^ 8 := qbg _ 8; have i := qbg T.tabs 60; have j : (2 : Nat) ^ 60 < 2 ^ 64 := by decide
  refine qF (qad (by omega)) (qF (qad (by omega)) (qF (qad (by omega)) (qF (qad (by omega)) (qF (qad (by omega)) (qF (qad (by omega)) (qF (qh2 dc dw.2 dh.2) (qF (qh2 ds dw.2 dh.2) (qF (qh2 da dw.2 dh.2)
    (qF (qda fun l hl => ?_) (qF (qda fun l hl => ?_) (qF (qad (by have := dk.1; omega)) (qF (qda fun l hl => ?_) (qF (qe3 (by omega)) (qF (qe3 (by omega)) (qmO dp)))))))))))))))
  · obtain ⟨b, _, a⟩ := dg.2 l hl
    exact qe4 1000 l (by omega) (by omega) a
  · obtain ⟨b, _, a⟩ := c.2 l hl
    exact qe4 1000 l (by omega) (by omega) a
  · obtain ⟨k, b, _, a⟩ := dk.2 l hl
    exact qF (qad (by omega)) (qe4 1000 l (by omega) (by omega) a)
theorem qjJ : ∀ (f n : Nat), (qfv f n).length ≤ f + 1
  | 0, n => by simp [qfv]
  | f + 1, n => by
    rw [qfv]
    split
    · simp
    · have := qjJ f (n / 128)
      rw [List.length_cons]; omega
theorem qaA (n : Nat) : (qZ n).length ≤ 10 := qjJ 9 n
theorem qfn (x : ByteArray) : (qal x).length ≤ 10 + x.size := by
  unfold qal; rw [List.length_append, qcC]; have := qaA x.size; omega
theorem qeR {α : Type} {f : α → List Int} {c : Nat} : ∀ {l : List α}, (∀ x ∈ l, (f x).length ≤ c) → (l.flatMap f).length ≤ c * l.length
  | [], _ => by simp
  | a :: l, h => by
    rw [List.flatMap_cons, List.length_append, List.length_cons, Nat.mul_succ]
    have h1 := h a (List.mem_cons_self ..)
    have h2 := qeR (f := f) (c := c) fun x hx => h x (List.mem_cons_of_mem a hx)
    omega
theorem len_cell (n : Nat) (c : Cel) : (qd3 n c).length ≤ 30 := by
  unfold qd3; rw [List.length_append, List.length_append]; have a := qaA n; have b := qaA c.rune.toNat; have d := qaA (qbp c.sty); omega
theorem qh3 : ∀ (f : Nat) (l : List Cel), l.length ≤ f → (qQ l).length ≤ 30 * l.length
  | _, [], _ => by simp [qQ, qdu]
  | 0, c :: l, hf => by simp at hf
  | f + 1, c :: l, hf => by
    obtain ⟨n, l', e, hl'⟩ := qe2 c l
    have hlen : (c :: l).length = (n + 1) + l'.length := by rw [e, List.length_append, List.length_replicate]
    rw [e, qd4 hl' n, List.length_append, ← e, hlen]
    have a := len_cell (n + 1) c
    have b := qh3 f l' (by omega)
    omega
theorem qiU (c : Cur) : (qbC c).length ≤ 40 := by
  unfold qbC; simp only [List.length_append]; have a := qaA c.x.toNat; have b := qaA c.y.toNat; have d := qaA (qG [c.late]); have e := qaA (qbp c.sty); omega
theorem qig {W : Int} {L : List (List Cel)} (hW : W ≤ 60) (h : ∀ l ∈ L, (l.length : Int) = W ∧ qaT l = true ∧ ∀ c ∈ l, cOk c) : (L.flatMap qQ).length ≤ 1800 * L.length := qeR fun l hl => by
  have h1 := (h l hl).1
  have h2 := qh3 l.length l (Nat.le_refl _)
  omega
theorem len_pars {p : PS} (h : ParsOk p) : (qbi p).length ≤ 1000 := by
  obtain ⟨c, d, i, f, j, k, g, l, m⟩ := h; have a := qfn (qj p.utf.pend); have b : (p.params.flatMap fun n => qZ n.toNat).length ≤ 10 * p.params.length := qeR fun n _ => qaA n.toNat; rw [qb5] at a; have o := f.2; have e := Nat.add_le_add (qaA p.state.toNat) (Nat.add_le_add (qaA p.within.toNat) (Nat.add_le_add a (Nat.add_le_add (qfn p.marks) (Nat.add_le_add (qaA p.params.length) (Nat.add_le_add b (qfn p.text)))))); clear a b; unfold qbi; rw [List.length_append, List.length_append, List.length_append, List.length_append, List.length_append, List.length_append]; refine Nat.le_trans e ?_; clear e c d g; omega
theorem len_enc {T : TS} (h : DecOk T) : (qet T).length ≤ 300000 := by
  obtain ⟨dw, dh, ⟨d, f⟩, dt, dc, ds, da, dg, a, dk, c, dr, dp⟩ := h; have b : (qbA T.back).length ≤ 1810 * T.back.length := by
    unfold qbA; refine qeR fun l hl => ?_; have g := (dk.2 l hl).2.1; rw [List.length_append]; refine Nat.le_trans (Nat.add_le_add (qaA l.length) (qh3 l.length l (Nat.le_refl _))) ?_; omega
  have e := Nat.add_le_add (qaA T.grid.w.toNat) (Nat.add_le_add (qaA T.grid.h.toNat) (Nat.add_le_add (qaA T.top.toNat) (Nat.add_le_add (qaA T.bot.toNat) (Nat.add_le_add (qaA (qG (qbn T))) (Nat.add_le_add (qaA (qai T.tabs 60)) (Nat.add_le_add (qiU T.cursor) (Nat.add_le_add (qiU T.saved) (Nat.add_le_add (qiU T.away)
    (Nat.add_le_add (qig dw.2 dg.2) (Nat.add_le_add (qig dw.2 a.2) (Nat.add_le_add (qaA T.back.length) (Nat.add_le_add b (Nat.add_le_add (qfn T.title) (Nat.add_le_add (qfn T.reply) (len_pars dp)))))))))))))))
  clear b; have i : T.grid.lines.length ≤ 60 := by have := dg.1; omega
  have j : T.other.lines.length ≤ 60 := by have := a.1; omega
  have k : T.back.length ≤ 20 := dk.1; have m : T.title.size ≤ 40 := c; have n : T.reply.size ≤ 400 := dr; unfold qet; rw [List.length_append, List.length_append, List.length_append, List.length_append, List.length_append, List.length_append, List.length_append, List.length_append, List.length_append, List.length_append, List.length_append, List.length_append, List.length_append, List.length_append, List.length_append]; refine Nat.le_trans e ?_; clear e; omega
theorem okN (p1 p2 : Int) (l : List Stp) : ∀ k, (∃ W H, Okt true W H (doN (qaa zeroT p1 p2) l k)) ∧ PRight (doN (qaa zeroT p1 p2) l k).parser ∧ Fine (doN (qaa zeroT p1 p2) l k)
  | 0 => ⟨⟨_, _, qjt zeroT p1 p2 (by decide)⟩, qe0 (.inl rfl), qfV p1 p2⟩
  | k + 1 => by
    obtain ⟨⟨W, H, h1⟩, h2, h3⟩ := okN p1 p2 l k
    exact ⟨ok_do h1 h3.2 _, pr_do h2 h3.2 _, qlP h3 _⟩
theorem decOkN (p1 p2 : Int) (l : List Stp) (k : Nat) : DecOk (doN (qaa zeroT p1 p2) l k) := by
  obtain ⟨⟨W, H, a⟩, b, c⟩ := okN p1 p2 l k; exact decOk_of a b c.2
theorem encI_ne (T : TS) : 0 < (qet T).length := by
  unfold qet; rw [List.length_append]; have := List.length_pos_iff.2 (qm0 9 T.grid.w.toNat); show 0 < (qfv 9 T.grid.w.toNat).length + _; omega
set_option maxHeartbeats 4000000 in
theorem qmP (p1 p2 : Int) (sb so sc : Nat) (st : List Stp) (w : World) (hT : LT w) (h7 : gTop ≤ w.heap.size) (hst : Rd w (some ⟨sb, so, none⟩) (flatS st)) (hsh : st.length ≤ 40 ∧ ∀ k, k < st.length → (gs st k).text.size ≤ 600) : Calls Tryz.prog 11 [.agg #[iX p1, iX p2], .slice (some ⟨sb, so, none⟩) st.length sc].toArray w fun e w' => ∃ t, e = .returned (pX t) ∧ Sys w w' [] [(t, doN (qaa zeroT (p1) (p2)) st st.length)] := by
 have hS := Sys.start hT h7; refine yA Tryz.func11 rfl <| ysr <| yo (yN [iX p1, iX p2] 22 fun s d u L j v => ?_); refine yz 2 <| ysr <| yp 4 [] (.i 0 (2) (.l (j.c 0) (.i 1 (2) (.l (j.c 1) .z)))) ?_; have x : Sys w s [(d, [iX p1, iX p2], 22)] [] := hS.box v j (Nat.le_of_eq u.symm); refine yo (yC (x.new (p1) (p2)) ?_); rintro _ y ⟨b, rfl, n, M⟩; refine ⟨_, rfl, ?_⟩; replace n : Sys w y [(d, [iX p1, iX p2], 22)] [(b, (qaa zeroT (p1) (p2)))] := n; refine yz 6 <| ys <| yx 3 <| q8 <| qa2 [5, 13, 14, 15] (f' := [(5, pX b), (13, .slice (some ⟨sb, so, none⟩) st.length sc), (14, iX ((st.length : Nat) : Int)), (15, iX 0)]) <| qy (σ := Nat) (fun k => [(5, pX b), (13, .slice (some ⟨sb, so, none⟩) st.length sc), (14, iX ((st.length : Nat) : Int)), (15, iX ((k : Nat) : Int))]) (fun k wv => (k : Int) ≤ ((st.length : Nat) : Int) ∧ Sys w wv [(d, [iX p1, iX p2], 22)] [(b, (doN (qaa zeroT (p1) (p2)) st k))]) (fun k => (((st.length : Nat) : Int)).toNat - k) 0 rfl ?_ ?_
 ·exact ⟨by omega, n⟩
 intro k A B N C; obtain ⟨O, f⟩ := B; replace f : Sys w A [(d, [iX p1, iX p2], 22)] [(b, (doN (qaa zeroT (p1) (p2)) st k))] := f; refine yx 1 <| ys <| yc (rL ((k : Nat) : Int) ((st.length : Nat) : Int)) (fun D => ?_) fun D => ?_
 ·refine yk <| ys <| q8 <| ysr <| yp 2 [] (.i ((k : Nat) : Int) (st.length) (.m (s_text (k := k) (Ch.rd f.ch hst id) (by omega)) (.m (s_w (k := k) (Ch.rd f.ch hst id) (by omega)) (.m (s_h (k := k) (Ch.rd f.ch hst id) (by omega)) (.e .z))))) <| yo (yN [oX, iX 0, iX 0] 37 fun E g F P G H => ?_); have p : Sys w E [(d, [iX p1, iX p2], 22), (g, [oX, iX 0, iX 0], 37)] [(b, (doN (qaa zeroT (p1) (p2)) st k))] := f.box H G (Nat.le_of_eq F.symm); refine yo (yS (p.blk 1 (g, [oX, iX 0, iX 0], 37) rfl) fun I J K => ?_); have q : Sys w I [(d, [iX p1, iX p2], 22), (g, [.string (gs st k).text, iX (gs st k).w, iX (gs st k).h], 37)] [(b, (doN (qaa zeroT (p1) (p2)) st k))] := p.set 1 rfl K (Blk.to J (by kernel_rfl)); refine ye <| q7 <| yp 2 [] (.a ((q.blk 1 (g, [.string (gs st k).text, iX (gs st k).w, iX (gs st k).h], 37) rfl).cs 0 3) .z) <| yo (yQ (q.do (i := 0) rfl (gs st k) (by have := hsh.2 k (by omega); omega)) fun r o => ?_); replace o : Sys w r [(d, [iX p1, iX p2], 22), (g, [.string (gs st k).text, iX (gs st k).w, iX (gs st k).h], 37)] [(b, (doT (doN (qaa zeroT (p1) (p2)) st k) (gs st k)))] := o; refine yE (nB (nS ?_)); refine q7 <| yp 2 [] (.q6 (((k : Nat) : Int) + 1) .z) <| yE (fun a ha => C (k + 1) _ ⟨by omega, (Sys.pre (bs' := [(g, [.string (gs st k).text, iX (gs st k).w, iX (gs st k).h], 37)]) (show Sys w r (_ ++ [(g, [.string (gs st k).text, iX (gs st k).w, iX (gs st k).h], 37)]) _ from o))⟩ (by omega) a (ha.kp [5, 13, 14, 15]))
 refine qo (eS (qf (qe (nS ?_)))); refine yx 2 <| qd (yR1 (pX b) ?_); obtain rfl : k = st.length := by omega
 exact ⟨b, rfl, Sys.pre (bs := []) (bs' := [(d, [iX p1, iX p2], 22)]) f⟩
set_option maxHeartbeats 4000000 in
theorem make_nil (p1 p2 : Int) (a : Option Addr) (sc : Nat) (w : World) (hT : LT w) (h7 : gTop ≤ w.heap.size) : Calls Tryz.prog 11 [.agg #[iX p1, iX p2], .slice a 0 sc].toArray w fun e w' => ∃ t, e = .returned (pX t) ∧ Sys w w' [] [(t, doN (qaa zeroT (p1) (p2)) [] 0)] := by
 have hS := Sys.start hT h7; refine yA Tryz.func11 rfl <| ysr <| yo (yN [iX p1, iX p2] 22 fun h b j o d k => ?_); refine yz 2 <| ysr <| yp 4 [] (.i 0 (2) (.l (d.c 0) (.i 1 (2) (.l (d.c 1) .z)))) ?_; have m : Sys w h [(b, [iX p1, iX p2], 22)] [] := hS.box k d (Nat.le_of_eq j.symm); refine yo (yC (m.new (p1) (p2)) ?_); rintro _ n ⟨f, rfl, g, p⟩; refine ⟨_, rfl, ?_⟩; replace g : Sys w n [(b, [iX p1, iX p2], 22)] [(f, (qaa zeroT (p1) (p2)))] := g; refine yz 6 <| ys <| yx 3 <| q8 <| yU 1 (yU1 ?_); refine yx 1 <| ys <| ycf <| qo (eS (qf (qe (nS ?_)))); refine yx 2 <| qd (yR1 (pX f) ?_); exact ⟨f, rfl, Sys.pre (bs := []) (bs' := [(b, [iX p1, iX p2], 22)]) g⟩
theorem make_any (p1 p2 : Int) (a : Option Addr) (n sc : Nat) (st : List Stp) (w : World) (hT : LT w) (h7 : gTop ≤ w.heap.size) (ha : n = 0 ∨ ∃ b off, a = some ⟨b, off, none⟩) (hn : st.length = n) (hst : Rd w a (flatS st)) (hsh : st.length ≤ 40 ∧ ∀ k, k < st.length → (gs st k).text.size ≤ 600) :
 Calls Tryz.prog 11 [.agg #[iX p1, iX p2], .slice a n sc].toArray w fun e w' => ∃ t, e = .returned (pX t) ∧ Sys w w' [] [(t, doN (qaa zeroT (p1) (p2)) st st.length)] := by
 rcases ha with rfl | ⟨b, off, rfl⟩
 ·obtain rfl := List.eq_nil_of_length_eq_zero hn; exact make_nil p1 p2 a sc w hT h7
 subst hn; exact qmP p1 p2 b off sc st w hT h7 hst hsh
theorem qmQ (a : Option Addr) (n sc : Nat) (st : List Stp) (w : World) (hT : LT w) (h7 : gTop ≤ w.heap.size) (ha : n = 0 ∨ ∃ b off, a = some ⟨b, off, none⟩) (hn : st.length = n) (hst : Rd w a (flatS st)) :
 Calls Tryz.prog 10 [.slice a n sc].toArray w fun e w' => e = .returned (.bool (qfX st)) ∧ Ch (fun _ => False) w w' := by
 rcases ha with rfl | ⟨b, off, rfl⟩
 ·obtain rfl := List.eq_nil_of_length_eq_zero hn; exact qmD a sc w hT h7
 subst hn; exact qkH b off sc st w hT h7 hst
theorem and24 (x : Int) : 0 ≤ ql .and .i64 x 16777215 ∧ ql .and .i64 x 16777215 ≤ 16777215 := by
 have h : (BitVec.ofInt 64 x &&& BitVec.ofInt 64 16777215).toNat ≤ 16777215 := by
  rw [BitVec.toNat_and]; exact Nat.and_le_right
 unfold ql; show 0 ≤ IntKind.wrap .i64 (((BitVec.ofInt 64 x &&& BitVec.ofInt 64 16777215).toNat : Nat) : Int) ∧ IntKind.wrap .i64 (((BitVec.ofInt 64 x &&& BitVec.ofInt 64 16777215).toNat : Nat) : Int) ≤ 16777215; generalize (BitVec.ofInt 64 x &&& BitVec.ofInt 64 16777215).toNat = n at h; rw [qbS (k := .i64) (n := ((n : Nat) : Int)) (show -9223372036854775808 ≤ ((n : Nat) : Int) ∧ ((n : Nat) : Int) ≤ 9223372036854775807 by omega)]; omega
theorem wrap_u8 (x : Int) : 0 ≤ IntKind.wrap .u8 x ∧ IntKind.wrap .u8 x ≤ 255 := by
 have : IntKind.wrap .u8 x = x % 256 := by simp [IntKind.wrap, IntKind.bits, IntKind.signed]
 rw [this]; omega
set_option maxHeartbeats 4000000 in
theorem cuts_any (p1 p2 : Int) (a : Option Addr) (n sc : Nat) (st : List Stp) (at' : Int) (w : World) (hT : LT w) (h7 : gTop ≤ w.heap.size) (ha : n = 0 ∨ ∃ b off, a = some ⟨b, off, none⟩) (hn : st.length = n) (hst : Rd w a (flatS st)) : Calls Tryz.prog 4 [.agg #[iX p1, iX p2], .slice a n sc, iX at'].toArray w fun e w' => e = .returned (.bool true) ∧ Ch (fun _ => False) w w' := by
 refine yA Tryz.func4 rfl <| ysr <| yo (yN [iX p1, iX p2] 22 fun V aq W ar X Y => ?_); have au := zn W (zr w); have B : Ch (fun _ => False) w V := zt (zr w) Y iZ; refine yz 2 <| ys <| ysr <| yo (yQ (qmC _ (qw B hT (fun b h => h.elim)) (Nat.le_trans h7 (zs B))) fun Z K => ?_); have o : Ch (fun _ => False) w Z := zt B K iZ; have a0 := X.ch K id; refine yz 2 <| ycf <| yk <| ys <| ysr <| yq 1 <| yo (yQ (qmQ a n sc st _ (qw o hT (fun b h => h.elim)) (Nat.le_trans h7 (zs o)) ha hn (hst.ch o iZ)) fun a1 L => ?_); have m : Ch (fun _ => False) w a1 := zt o L iZ; have a2 := a0.ch L id; refine yz 3 <| yc (rN (rY (qfX st))) (fun M => ?_) fun M => ?_
 ·refine yx 1 <| qd (rS (yR1 (.bool true) ?_)); exact ⟨rfl, m⟩
 have a3 := shortB_iff.1 M; refine yk <| ysr <| yp 2 [] (.a (a2.cs 0 2) .z) <| yo (yC (make_any p1 p2 a n sc st _ (qw m hT (fun b h => h.elim)) (Nat.le_trans h7 (zs m)) ha hn (hst.ch m iZ) a3) ?_); rintro _ f ⟨av, rfl, r⟩; refine ⟨_, rfl, ?_⟩; have a4 := r.ch; obtain ⟨aw, N⟩ := r.at (i := 0) rfl; have k := decOkN p1 p2 st st.length; have a5 := r.fine (i := 0) rfl; obtain ⟨T, a6⟩ : ∃ T, T = doN (qaa zeroT (p1) (p2)) st st.length := ⟨_, rfl⟩
 rw [← a6] at N k a5 r; have C := byts_enc k; have ax := len_enc k; have ay := encI_ne T; have a7 : Ch (fun _ => False) w f := zt m a4 iZ; refine yo (yC (qg9 (TermAt.ch N (zr f) iZ) k.enc) ?_); rintro _ d ⟨az, c, s, rfl, l, aA, aB, O⟩; refine ⟨_, rfl, ?_⟩; have D : Ch (fun _ => False) w d := zt a7 O iZ; have a8 : Ch (fun _ => False) f d := zt (zr f) O iZ; have aC : (qet T).length = c := qib l; obtain ⟨ob, rfl⟩ := qcw l (by omega); have aD : c ≤ s := l.2.1; have aE := and24 at'; have aF : 0 ≤ (ql .and .i64 at' 16777215) % ((c : Nat) : Int) := Int.emod_nonneg _ (by omega); have aG : (ql .and .i64 at' 16777215) % ((c : Nat) : Int) < ((c : Nat) : Int) := Int.emod_lt_of_pos _ (by omega); refine yz 5 <| ys <| yx 3 <| yc (rE ((c : Nat) : Int) 0) (fun E => ?_) fun E => ?_
 ·have aH := E; exfalso; omega
 have aI := E; refine yk <| ysr ?_; refine yp 7 [] (.p (q := 0 ≤ ((ql .and .i64 at' 16777215) : Int) ∧ 0 < (((c : Nat) : Int) : Int)) (by constructor <;> omega) (.j ((ql .and .i64 at' 16777215) % ((c : Nat) : Int)) (s) .z)) ?_; refine yo (yC (qem ob (some ⟨ob, 0, none⟩) ((((ql .and .i64 at' 16777215) % ((c : Nat) : Int)) : Int).toNat) s ((qet T).take ((((ql .and .i64 at' 16777215) % ((c : Nat) : Int)) : Int).toNat)) none _ (qw D hT (fun b h => h.elim)) (Nat.le_trans h7 (zs D)) (qcS (Ch.rd (zr d) (Own.rd l) id) _) (by rw [List.length_take]; omega) (by omega) (.inr ⟨0, rfl⟩) (qfb C _) (by omega) (Nat.lt_of_lt_of_le l.lt (zs (zr d))) (decT_cut k C (by omega))) ?_); rintro _ F ⟨aJ, aK, rfl, G, a9⟩; refine ⟨_, rfl, ?_⟩; have P : Ch (fun _ => False) w F := zt D G iZ; have aa : Ch (fun _ => False) f F := zt a8 G iZ; have Q : Ch (fun _ => False) d F := zt (zr d) G iZ; obtain ⟨_, rfl, rfl⟩ := a9.resolve_right (by rintro ⟨_, _, h, _⟩; cases h); refine yz 13 <| ysr <| yq 1 ?_; refine yo (qaq 5 1 1 none 0 0 [] (some ⟨ob, 0, none⟩) c s (u8s (qet T)) (some 37) c (Nat.zero_add _) (u8s (qet T)) rfl (by kernel_rfl) (Own.nil _ _ _) (Ch.rd Q (Own.rd l) id) (by rw [u8s, List.length_map]; omega) (qde _) (fun h => by cases h) (by constructor <;> first | omega | (simp only [maxLen]; omega)) ?_); intro g ab ac ad ae aL af; have H : Ch (fun _ => False) _ _ := af.mono (fun _ _ h => by cases h); have R : Ch (fun _ => False) w g := zt P H iZ; have S : Ch (fun _ => False) f g := zt aa H iZ
 have U : Ch (fun _ => False) d g := zt Q H iZ; refine yq 4 <| yo (yB [uX (IntKind.wrap .u8 at')] 5 1 fun t u v aM ag x => ?_); have aN := zn v R; have aO : f.heap.size ≤ u := by rw [v]; exact zs S
 have aP : d.heap.size ≤ u := by rw [v]; exact zs U
 have aQ : g.heap.size ≤ u := by rw [v]; exact zs (zr g)
 have ah : Ch (fun _ => False) w t := zt R x iZ; have aR : Ch (fun _ => False) f t := zt S x iZ; have aS : Ch (fun _ => False) d t := zt U x iZ; have ai : Ch (fun _ => False) g t := zt (zr g) x iZ; refine yo (qaq 5 1 1 ab c ac (u8s (qet T)) (some ⟨u, 0, none⟩) 1 1 [uX (IntKind.wrap .u8 at')] (some 41) (c + 1) rfl (u8s (qet T ++ [(IntKind.wrap .u8 at')])) (by rw [u8s, u8s, List.map_append]; rfl) (by kernel_rfl) (Own.ch ad ai iZ) (Rd.all ag) rfl rfl (fun h => by cases h) (by constructor <;> first | omega | (simp only [maxLen]; omega)) ?_); intro aj aT ak A aU aV al; have I : Ch (fun _ => False) w aj := zt ah al (fun i hi h => by
  rcases ae with J | ⟨g0, J, h1⟩
  ·rw [J] at h; cases h
  rw [J] at h; have := zi h; have := zs P; omega)
 obtain ⟨oz, rfl⟩ := qcw A (by omega); refine yo (yC (qem oz (some ⟨oz, 0, none⟩) (c + 1) ak (qet T ++ [(IntKind.wrap .u8 at')]) none _ (qw I hT (fun b h => h.elim)) (Nat.le_trans h7 (zs I)) (Own.rd A) (by rw [List.length_append]; show _ + 1 = _; omega) A.2.1 (.inr ⟨0, rfl⟩) (qF C (fun y hy => by rw [List.mem_singleton.1 hy]; exact wrap_u8 _)) (by omega) A.lt (qif k (by simp))) ?_); rintro _ am ⟨aY, aZ, rfl, an, ao⟩; refine ⟨_, rfl, ?_⟩; have ap : Ch (fun _ => False) w am := zt I an iZ; obtain ⟨_, rfl, rfl⟩ := ao.resolve_right (by rintro ⟨_, _, h, _⟩; cases h); refine yz 12 <| yx 15 <| qd (yR1 (.bool true) ?_); exact ⟨rfl, ap⟩
end Go.Proofs.YtclnfbmmaofpjaaGreatDoor.X
namespace Go.Proofs.YtclnfbmmaofpjaaGreatDoor
open Go.ChangeShapes Go.WideShapes Go.ChangeAt Go.RowKit
theorem qiV : ownKnob Tryz.prog.godebug = none := by kernel_rfl
abbrev qkJ : List (String × DataW Unit) := [("flipbook/glyph.wide", Rows.laid_flipbook_glyph_wide), ("flipbook/glyph.signs", Rows.laid_flipbook_glyph_signs), ("math/bits.deBruijn32tab", Rows.laid_math_bits_deBruijn32tab), ("math/bits.deBruijn64tab", Rows.laid_math_bits_deBruijn64tab), ("internal/strconv.uint64pow10", Rows.laid_internal_strconv_uint64pow10), ("unicode/utf8.acceptRanges", Rows.laid_unicode_utf8_acceptRanges), ("unicode/utf8.first", Rows.laid_unicode_utf8_first)]
theorem doorMet (os : Os) (args : Array Value) : laidMetH Tryz.prog qkJ ((World.laidAll Tryz.prog os qkJ).forCall (fun _ _ => 0) ⟨#[], args, []⟩).memory := by
 rw [MakeChecks.laidMetH_plain _ _ _ (by kernel_rfl)]; exact laidMet_laidAll _ (by kernel_rfl) (by kernel_rfl)
theorem qkK (os : Os) : (World.laidAll Tryz.prog os qkJ).Shaped Tryz.prog := World.shaped_of_ZipB (by kernel_rfl) (by kernel_rfl)
theorem qc9 {W : World} {g n t : Nat} {k : IntKind} {e : TypeId} (he : Tryz.prog.underlying e = some (.int k)) (ce : Tryz.prog.cellsOf e = 1) {name : String} {cs : Array Value} {fuel : Nat} {l : List Int} {q : List MemPlace} (hg : Tryz.prog.globalNamed name = some g) (hv : W.var? Tryz.prog name = some cs)
  (hd : DataW.trod (H := Unit) (fun _ => ()) Tryz.prog W 0 (fun _ => true) false fuel t cs.toList = some (.agg (l.map fun n => .lit (.int k n)), q))
  (ht : Tryz.prog.underlying t = some (.array n e)) (hl : l.length = n) : ∀ r, r < l.length → W.cell? ⟨g, r, none⟩ = some (.int k (l.getD r 0)) := by
 obtain ⟨xs, m, _, ex, _, hlx, hel⟩ := DataW.trod_array ht hd
 intro r hr
 have hE := hel r (by omega)
 rw [ce, Nat.mul_one, List.getElem?_eq_getElem (by omega)] at hE
 obtain ⟨z, e1, e2, _⟩ := DataW.trod_int he hE
 have e3 : (xs.map (·.1)) = l.map fun n => .lit (.int k n) := (DataW.agg.inj (Prod.mk.inj ex).1).symm
 have e4 : (xs.map (·.1))[r]? = (l.map fun n => (DataW.lit (.int k n) : DataW Unit))[r]? := by rw [e3]
 rw [List.getElem?_map, List.getElem?_map, List.getElem?_eq_getElem (by omega : r < xs.length), List.getElem?_eq_getElem (by omega : r < l.length), e2] at e4
 have hz : z = l.getD r 0 := by
  simp only [Option.map_some, Option.some.injEq, DataW.lit.injEq, Lit.int.injEq, true_and] at e4
  rw [e4, List.getD, List.getElem?_eq_getElem (by omega : r < l.length)]; rfl
 rw [World.var?_cell hg hv r, ← hz]
 have : cs.toList[r]? = some (.int k z) := by
  have h0 : ((cs.toList.drop r).take 1)[0]? = some (.int k z) := by rw [e1]; rfl
  simpa using h0
 simpa using this
theorem qh4 {W : World} {g n t e u : Nat} {k : IntKind} {fs : Array Field} (hs : Tryz.prog.underlying e = some (.struct fs)) (h0 : ∃ f, fs[0]? = some f ∧ f.type = u ∧ f.offset = 0) (h1 : ∃ f, fs[1]? = some f ∧ f.type = u ∧ f.offset = 1) (hz : fs.size = 2) (hu : Tryz.prog.underlying u = some (.int k)) (ce : Tryz.prog.cellsOf e = 2) (cu : Tryz.prog.cellsOf u = 1)
  {name : String} {cs : Array Value} {fuel : Nat} {l : List (Int × Int)} {q : List MemPlace} (hg : Tryz.prog.globalNamed name = some g) (hv : W.var? Tryz.prog name = some cs)
  (hd : DataW.trod (H := Unit) (fun _ => ()) Tryz.prog W 0 (fun _ => true) false fuel t cs.toList = some (.agg (l.map fun p => .agg [.lit (.int k p.1), .lit (.int k p.2)]), q))
  (ht : Tryz.prog.underlying t = some (.array n e)) (hl : l.length = n) : ∀ r p, l[r]? = some p → W.cell? ⟨g, r * 2, none⟩ = some (.int k p.1) ∧ W.cell? ⟨g, r * 2 + 1, none⟩ = some (.int k p.2) := by
 obtain ⟨xs, m, _, ex, _, hlx, hel⟩ := DataW.trod_array ht hd
 intro r p hp
 have hr : r < l.length := (List.getElem?_eq_some_iff.1 hp).1
 have hE := hel r (by omega)
 rw [ce, List.getElem?_eq_getElem (by omega)] at hE
 have e3 : (xs.map (·.1)) = l.map fun p => .agg [.lit (.int k p.1), .lit (.int k p.2)] := (DataW.agg.inj (Prod.mk.inj ex).1).symm
 have e4 : (xs.map (·.1))[r]? = (l.map fun p => (DataW.agg [.lit (.int k p.1), .lit (.int k p.2)] : DataW Unit))[r]? := by rw [e3]
 rw [List.getElem?_map, List.getElem?_map, List.getElem?_eq_getElem (by omega : r < xs.length), hp] at e4
 simp only [Option.map_some, Option.some.injEq] at e4
 obtain ⟨ys, m2, _, ey, _, hly, hfy⟩ := DataW.trod_struct hs hE
 rw [ey] at e4
 have e5 := DataW.agg.inj e4
 obtain ⟨f0, hf0, t0, o0⟩ := h0
 obtain ⟨f1, hf1, t1, o1⟩ := h1
 have k0 := hfy 0 f0 hf0
 have k1 := hfy 1 f1 hf1
 rw [t0, o0, cu, List.drop_zero, List.take_take] at k0
 rw [t1, o1, cu] at k1
 have hy : ys.length = 2 := by rw [hly, hz]
 rw [List.getElem?_eq_getElem (by omega)] at k0 k1
 obtain ⟨z0, a0, b0, _⟩ := DataW.trod_int hu k0
 obtain ⟨z1, a1, b1, _⟩ := DataW.trod_int hu k1
 have c0 : (ys.map (·.1))[0]? = some (.lit (.int k p.1)) := by rw [e5]; rfl
 have c1 : (ys.map (·.1))[1]? = some (.lit (.int k p.2)) := by rw [e5]; rfl
 rw [List.getElem?_map, List.getElem?_eq_getElem (by omega), b0] at c0
 rw [List.getElem?_map, List.getElem?_eq_getElem (by omega), b1] at c1
 simp only [Option.map_some, Option.some.injEq, DataW.lit.injEq, Lit.int.injEq, true_and] at c0 c1
 subst c0 c1
 have d0 : cs.toList[r * 2]? = some (.int k p.1) := by
  have h0 : ((cs.toList.drop (r * 2)).take (min 1 2))[0]? = some (.int k p.1) := by rw [a0]; rfl
  simpa using h0
 have d1 : cs.toList[r * 2 + 1]? = some (.int k p.2) := by
  have h0 : ((((cs.toList.drop (r * 2)).take 2).drop 1).take 1)[0]? = some (.int k p.2) := by rw [a1]; rfl
  simpa using h0
 exact ⟨by rw [World.var?_cell hg hv]; simpa using d0, by rw [World.var?_cell hg hv]; simpa using d1⟩
def firstL : List Int := (List.range 256).map X.firstN
def accL : List (Int × Int) := (List.range 16).map X.accN
theorem qh5 {c : Nat} (h : c < 256) : firstL.length = 256 ∧ firstL.getD c 0 = X.firstN c := by
 have e : firstL.length = 256 := by simp [firstL]
 refine ⟨e, ?_⟩
 rw [List.getD, firstL, List.getElem?_map, List.getElem?_range h]; rfl
theorem acc_at {i : Nat} (h : i < 16) : accL[i]? = some (X.accN i) := by
 rw [accL, List.getElem?_map, List.getElem?_range h]; rfl
set_option maxRecDepth 100000 in
theorem qkL {W : World} (h : laidMetH Tryz.prog qkJ W) : X.LT W := by
 rw [MakeChecks.laidMetH_plain _ _ _ (by kernel_rfl)] at h
 obtain ⟨ps, ⟨g0, t0, cs0, f0, p0, q0, hg0, ht0, hv0, hd0, ⟨g1, t1, cs1, f1, p1, q1, hg1, ht1, hv1, hd1, ⟨g2, t2, cs2, f2, p2, q2, hg2, ht2, hv2, hd2, ⟨g3, t3, cs3, f3, p3, q3, hg3, ht3, hv3, hd3, ⟨g4, t4, cs4, f4, p4, q4, hg4, ht4, hv4, hd4, ⟨g5, t5, cs5, f5, p5, q5, hg5, ht5, hv5, hd5, ⟨g6, t6, cs6, f6, p6, q6, hg6, ht6, hv6, hd6, _, _⟩, _⟩, _⟩, _⟩, _⟩, _⟩, _⟩, _, _⟩ := h
 obtain rfl := Option.some.inj ((show Tryz.prog.globalNamed "flipbook/glyph.wide" = some 0 by kernel_rfl).symm.trans hg0)
 obtain rfl := Option.some.inj ((show Tryz.prog.globalNamed "flipbook/glyph.signs" = some 3 by kernel_rfl).symm.trans hg1)
 obtain rfl := Option.some.inj ((show Tryz.prog.globalNamed "internal/strconv.uint64pow10" = some 4 by kernel_rfl).symm.trans hg4)
 obtain rfl := Option.some.inj ((show Tryz.prog.globalNamed "unicode/utf8.acceptRanges" = some 2 by kernel_rfl).symm.trans hg5)
 obtain rfl := Option.some.inj ((show Tryz.prog.globalNamed "unicode/utf8.first" = some 1 by kernel_rfl).symm.trans hg6)
 obtain rfl := Option.some.inj ((show (Tryz.prog.globals[0]?).map (·.type) = some 151 by kernel_rfl).symm.trans ht0)
 obtain rfl := Option.some.inj ((show (Tryz.prog.globals[3]?).map (·.type) = some 167 by kernel_rfl).symm.trans ht1)
 obtain rfl := Option.some.inj ((show (Tryz.prog.globals[4]?).map (·.type) = some 187 by kernel_rfl).symm.trans ht4)
 obtain rfl := Option.some.inj ((show (Tryz.prog.globals[2]?).map (·.type) = some 155 by kernel_rfl).symm.trans ht5)
 obtain rfl := Option.some.inj ((show (Tryz.prog.globals[1]?).map (·.type) = some 152 by kernel_rfl).symm.trans ht6)
 have z6 : Rows.laid_unicode_utf8_first = .agg (firstL.map fun n => .lit (.int .u8 n)) := by kernel_rfl
 rw [z6] at hd6
 have z5 : (Rows.laid_unicode_utf8_acceptRanges : DataW Unit) = .agg (accL.map fun p => .agg [.lit (.int .u8 p.1), .lit (.int .u8 p.2)]) := by kernel_rfl
 rw [z5] at hd5
 refine ⟨⟨qc9 (k := .i32) (e := 21) (by kernel_rfl) (by kernel_rfl) hg0 hv0 hd0 (by kernel_rfl) rfl, qc9 (k := .i32) (e := 21) (by kernel_rfl) (by kernel_rfl) hg1 hv1 hd1 (by kernel_rfl) rfl⟩, ⟨fun c hc => ?_, fun i hi => ?_⟩, fun i hi => ?_⟩
 ·have := qc9 (k := .u8) (e := 5) (by kernel_rfl) (by kernel_rfl) hg6 hv6 hd6 (by kernel_rfl) (qh5 hc).1 c (by rw [(qh5 hc).1]; exact hc)
  rw [(qh5 hc).2] at this; exact this
 ·exact qh4 (k := .u8) (e := 154) (u := 5) Tryz.underlying154 ⟨_, rfl, rfl, rfl⟩ ⟨_, rfl, rfl, rfl⟩ rfl Tryz.underlying5 (by kernel_rfl) (by kernel_rfl) hg5 hv5 hd5 Tryz.underlying155 (by simp [accL]) i _ (acc_at hi)
 ·have h1 := qc9 (k := .u64) (e := 61) (l := [1, 10, 100, 1000, 10000, 100000, 1000000, 10000000, 100000000, 1000000000, 10000000000, 100000000000, 1000000000000, 10000000000000, 100000000000000, 1000000000000000, 10000000000000000, 100000000000000000, 1000000000000000000, 10000000000000000000]) (by kernel_rfl) (by kernel_rfl) hg4 hv4 hd4 (by kernel_rfl) rfl i (Nat.lt_of_lt_of_le hi (by decide))
  rw [h1]
  obtain rfl | rfl | rfl : i = 0 ∨ i = 1 ∨ i = 2 := by omega
  all_goals rfl
end Go.Proofs.YtclnfbmmaofpjaaGreatDoor
namespace Go.Proofs.YtclnfbmmaofpjaaGreatDoor
open Go.ChangeShapes Go.WideShapes Go.ChangeAt Go.RowKit
section
variable {H : Type} {enc : TypeId × Value → H} {P : Program} {w : World} {base : Nat} {spare : Nat → Bool} {held : Bool}
theorem qe5 {α : Type} {l : List α} {i : Nat} {x : α} (h : (l.drop i).take 1 = [x]) : l[i]? = some x := by
 have h0 : ((l.drop i).take 1)[0]? = some x := by rw [h]; rfl
 simpa using h0
theorem qmR {r : Reach} {b0 : Nat} {t e : TypeId} {k : IntKind} {v : Value} {d : DataW H} {ps : List MemPlace} (ht : P.underlying t = some (.array 2 e)) (he : P.underlying e = some (.int k)) (ce : P.cellsOf e = 1) (ct : P.cellsOf t = 2)
  (hval : Value.okWide P w r b0 t v) (hd : DataW.Trod enc P w base spare held t v d ps) :
  ∃ a b, v = .agg #[.int k a, .int k b] ∧ d = .agg [.lit (.int k a), .lit (.int k b)] ∧ ps = [] ∧ (Lit.int k a).wf = true ∧ (Lit.int k b).wf = true := by
 obtain ⟨cs, rfl, hs, _⟩ : ∃ cs, v = .agg cs ∧ cs.size = 2 ∧ True := by
  unfold Value.okWide at hval
  rw [ht] at hval
  obtain ⟨cs, h1, h2, _⟩ := hval
  exact ⟨cs, h1, by rw [h2, ct], trivial⟩
 obtain ⟨fuel, hf⟩ := hd
 obtain ⟨xs, m, _, ex, _, hlx, hel⟩ := DataW.trod_array ht hf
 have k0 := hel 0 (by omega)
 have k1 := hel 1 (by omega)
 rw [ce, List.getElem?_eq_getElem (by omega)] at k0 k1
 obtain ⟨a, a0, b0, w0⟩ := DataW.trod_int he k0
 obtain ⟨b, a1, b1, w1⟩ := DataW.trod_int he k1
 have c0 := qe5 a0
 have c1 := qe5 a1
 simp only [Value.cells, Nat.zero_mul, Nat.one_mul] at c0 c1
 have hcs : cs = #[.int k a, .int k b] := by
  apply Array.ext'
  match hl : cs.toList, (show cs.toList.length = 2 by simpa using hs) with
  | [x, y], _ =>
   rw [hl] at c0 c1
   simp at c0 c1
   rw [c0, c1]
 have hxs : xs = [(.lit (.int k a), []), (.lit (.int k b), [])] := by
  match xs, hlx with
  | [x, y], _ =>
   simp at b0 b1
   rw [b0, b1]
 subst hcs hxs
 have e1 := (Prod.mk.inj ex)
 exact ⟨a, b, rfl, by simpa using e1.1, by simpa using e1.2, w0, w1⟩
theorem qmS {t e : TypeId} {k : IntKind} {a b : Int} (ht : P.underlying t = some (.array 2 e)) (he : P.underlying e = some (.int k)) (ce : P.cellsOf e = 1) (ct : P.cellsOf t = 2) (wa : (Lit.int k a).wf = true) (wb : (Lit.int k b).wf = true) :
  DataW.Trod enc P w base spare held t (.agg #[.int k a, .int k b]) (.agg [.lit (.int k a), .lit (.int k b)]) [] :=
 ⟨2, by simp [DataW.trod, Value.cells, ht, he, ce, ct, wa, wb, List.range_succ]⟩
end
theorem qiW {w w' : World} (h : X.Ch (fun _ => False) w w') : Below w.heap.size w w' := ⟨h.os, h.tape, h.output, h.size, fun k hk => h.block k hk id⟩
theorem qiX {W : World} (h : laidMetH Tryz.prog qkJ W) : X.gTop ≤ W.heap.size := by
 rw [MakeChecks.laidMetH_plain _ _ _ (by kernel_rfl)] at h
 obtain ⟨ps, ⟨g0, t0, cs0, f0, p0, q0, hg0, ht0, hv0, hd0, ⟨g1, t1, cs1, f1, p1, q1, hg1, ht1, hv1, hd1, ⟨g2, t2, cs2, f2, p2, q2, hg2, ht2, hv2, hd2, ⟨g3, t3, cs3, f3, p3, q3, hg3, ht3, hv3, hd3, _, _⟩, _⟩, _⟩, _⟩, _, _⟩ := h
 obtain rfl := Option.some.inj ((show Tryz.prog.globalNamed "math/bits.deBruijn64tab" = some 6 by kernel_rfl).symm.trans hg3)
 obtain rfl := Option.some.inj ((show (Tryz.prog.globals[6]?).map (·.type) = some 193 by kernel_rfl).symm.trans ht3)
 obtain ⟨xs, m, _, _, hlen, _⟩ := DataW.trod_array Tryz.underlying193 hd3
 have hl : cs3.toList.length = 64 := hlen.trans (by kernel_rfl)
 have hc := World.var?_cell hg3 hv3 0
 have : ∃ v, cs3[0]? = some v := ⟨_, Array.getElem?_eq_getElem (by simpa using (show 0 < cs3.toList.length by omega))⟩
 obtain ⟨v, hv⟩ := this
 rw [hv] at hc
 have := X.cell_lt hc
 show 7 ≤ _
 omega
end Go.Proofs.YtclnfbmmaofpjaaGreatDoor
namespace Go.Proofs.YtclnfbmmaofpjaaGreatDoor
open Go.ChangeShapes Go.WideShapes Go.ChangeAt Go.RowKit
section
variable {H : Type} {enc : TypeId × Value → H} {w : World} {base : Nat}
theorem three_of {cs : List Value} {a b c : Value} (hl : cs.length = 3) (h0 : cs[0]? = some a) (h1 : cs[1]? = some b) (h2 : cs[2]? = some c) : cs = [a, b, c] := by
 match cs, hl with
 | [u0, u1, u2], _ =>
  simp only [List.getElem?_cons_zero, List.getElem?_cons_succ, Option.some.injEq] at h0 h1 h2
  rw [h0, h1, h2]
set_option maxRecDepth 100000 in
theorem qkM {spare : Nat → Bool} {held : Bool} {n : Nat} {cs : List Value} {x : DataW H × List MemPlace} (h : DataW.trod enc Tryz.prog w base spare held n 37 cs = some x) (hl : cs.length = 3) : ∃ y : X.Stp, cs = y.vals := by
 obtain ⟨xs, m, _, _, _, hlx, hf⟩ := DataW.trod_struct Tryz.underlying37 h
 have c1 : Tryz.prog.cellsOf 9 = 1 := by kernel_rfl
 have c2 : Tryz.prog.cellsOf 3 = 1 := by kernel_rfl
 have k0 : DataW.trod enc Tryz.prog w base spare held m 9 ((cs.drop 0).take (Tryz.prog.cellsOf 9)) = xs[0]? := hf 0 _ rfl
 have k1 : DataW.trod enc Tryz.prog w base spare held m 3 ((cs.drop 1).take (Tryz.prog.cellsOf 3)) = xs[1]? := hf 1 _ rfl
 have k2 : DataW.trod enc Tryz.prog w base spare held m 3 ((cs.drop 2).take (Tryz.prog.cellsOf 3)) = xs[2]? := hf 2 _ rfl
 rw [c1] at k0
 rw [c2] at k1 k2
 have hlx3 : xs.length = 3 := hlx
 rw [List.getElem?_eq_getElem (by omega)] at k0 k1 k2
 obtain ⟨s, a0, _⟩ := DataW.trod_string Tryz.underlying9 k0
 obtain ⟨a, a1, _⟩ := DataW.trod_int Tryz.underlying3 k1
 obtain ⟨b, a2, _⟩ := DataW.trod_int Tryz.underlying3 k2
 have g0 := qe5 a0
 have g1 := qe5 a1
 have g2 := qe5 a2
 exact ⟨⟨s, a, b⟩, three_of hl g0 g1 g2⟩
set_option maxRecDepth 100000 in
theorem qkN {r : Reach} {b0 : Nat} {t : TypeId} {v : Value} {d : DataW H} {ps : List MemPlace} (ht : Tryz.prog.underlying t = some (.slice 37)) (hval : Value.okWide Tryz.prog w r b0 t v) (hd : DataW.Trod enc Tryz.prog w base (fun _ => true) true t v d ps) :
  ∃ (a : Option Addr) (n sc : Nat) (st : List X.Stp), v = .slice a n sc ∧ (n = 0 ∨ ∃ b off, a = some ⟨b, off, none⟩) ∧ st.length = n ∧ X.Rd w a (X.flatS st) := by
 obtain ⟨a0, n0, c0, rfl⟩ := okWide_slice ht hval
 obtain ⟨fuel, hf⟩ := hd
 have ce : Tryz.prog.cellsOf 37 = 3 := by kernel_rfl
 rcases Deep.open_slice ht hf with ⟨h0, _⟩ | ⟨a, len, cap, m, n, D, Pl, hv, _, hl, _, hm, _, hx⟩
 ·have h1 : Value.slice a0 n0 c0 = .slice none 0 0 := List.head_eq_of_cons_eq h0
  exact ⟨none, 0, 0, [], h1, .inl rfl, rfl, X.Rd.nil _ _⟩
 ·have h1 : Value.slice a0 n0 c0 = .slice (some a) len cap := List.head_eq_of_cons_eq hv
  have hm' : m = cap := by simpa using hm
  rw [ce] at hx
  have each : ∀ i, i < len → ∃ y : X.Stp, w.cells? base (a.add (i * 3)) 3 = some y.vals := fun i hi => by
   obtain ⟨cs, e1, e2⟩ := hx i (by omega)
   obtain ⟨_, hlen, _⟩ := World.cells?_some e1
   obtain ⟨y, rfl⟩ := qkM e2 hlen
   exact ⟨y, e1⟩
  have : Inhabited X.Stp := ⟨X.stp0⟩
  obtain ⟨f, hfy⟩ := Deep.choose_lt each
  refine ⟨some a, len, cap, (List.range len).map f, h1, ?_, by simp, fun e => (by cases e), fun ad e j u hj => ?_⟩
  ·rcases Nat.eq_zero_or_pos len with h0 | h0
   ·exact .inl h0
   ·right
    obtain ⟨_, _, hc⟩ := World.cells?_some (hfy 0 h0)
    have h2 := hc 0 (by omega)
    rw [Deep.add_add] at h2
    have h3 : w.cell? a = some (.string (f 0).text) := h2
    obtain ⟨b, off, sp⟩ := a
    cases sp with
    | none => exact ⟨b, off, rfl⟩
    | some q =>
     unfold World.cell? at h3
     split at h3
     ·simp at h3
     ·cases h3
  ·obtain rfl := Option.some.inj e
   have hlen : (X.flatS ((List.range len).map f)).length = len * 3 := by rw [X.flatS_len]; simp
   have hlt : j < len * 3 := by
    rw [← hlen]
    exact (List.getElem?_eq_some_iff.1 hj).1
   have hi : j / 3 < len := by omega
   have hr : j % 3 < 3 := by omega
   have hjj : j = j / 3 * 3 + j % 3 := by omega
   have h2 := X.flatS_get ((List.range len).map f) (j / 3) (j % 3) (by simpa using hi) hr
   rw [← hjj, hj] at h2
   have hg : X.gs ((List.range len).map f) (j / 3) = f (j / 3) := by simp [X.gs, List.getD, hi]
   rw [hg] at h2
   obtain ⟨_, _, hc⟩ := World.cells?_some (hfy (j / 3) hi)
   have h3 := hc (j % 3) hr
   rw [Deep.add_add, ← hjj] at h3
   rw [h3, ← h2]
end
end Go.Proofs.YtclnfbmmaofpjaaGreatDoor
