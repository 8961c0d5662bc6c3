/- What the proof of StateAny needs, part 4: the walks of the program's functions and the plain laws about them. -/
import Derived.Test.YtclnfbmmaofpjaaDoorQA3
import Derived.Test.YtclnfbmmaofpjaaDoorRows
import Derived.ProofKit
import Derived.OpenShut
import Derived.ChangeArms
import Derived.LaidMore
import Derived.Lay
import Derived.Stop.Joined
import Derived.Below
import Derived.SevenTiedAt
import Derived.ChangeSlices
import Derived.Carry
set_option linter.unusedSimpArgs false
set_option linter.unusedVariables false
namespace Go.Proofs.YtclnfbmmaofpjaaDoor.X
open Go Go.RowKit Go.Proofs.YtclnfbmmaofpjaaDoor
theorem bitI_eq (k : IntKind) (hk : k = .i64 ∨ k = .u64) {x : Int} (h0 : 0 ≤ x) (h1 : x < 9223372036854775808) (i : Nat) (hi : i < 64) : ((bitsv .and k (Int.fdiv x (2 ^ min ((i : Nat) : Int).toNat (IntKind.bits k))) 1 : Int) == 1) = bitB x.toNat i := by
 have := bit_eq k hk (n := x.toNat) (i := i) (by omega) hi
 rwa [Int.toNat_of_nonneg h0] at this
theorem i63 {x : Int} (h : x ≤ 9223372036854775807) : x < 9223372036854775808 := by omega
theorem bitJ_eq {x : Int} (h0 : 0 ≤ x) (h1 : x < 9223372036854775808) (I : Int) (i : Nat) (hi : i < 64) (hI : I = ((i : Nat) : Int)) : ((bitsv .and .i64 (Int.fdiv x (2 ^ min I.toNat (IntKind.bits .i64))) 1 : Int) == 1) = bitB x.toNat i := by
 subst hI
 exact bitI_eq .i64 (.inl rfl) h0 h1 i hi
theorem tabsK_zero (tb : Nat) : tabsK tb 0 = tabs0 7 := by funext i; simp [tabsK]
def headK (w h top bot n tb : Int) (k : Nat) : TS := { headT w h top bot n tb with tabs := tabsK tb.toNat k }
theorem TermIn.eqT {w : World} {t g o : Nat} {ba : Option Addr} {bn bc : Nat} {pa : Option Addr} {pn pc : Nat} {T T' : TS} {F F1 F2 FB FP : Nat → Prop} (h : TermIn w t g o ba bn bc pa pn pc T F F1 F2 FB FP) (e : T = T') : TermIn w t g o ba bn bc pa pn pc T' F F1 F2 FB FP := e ▸ h
def flK (w h top bot n : Int) (k : Nat) : TS := { startT zeroT w h with top := top, bot := bot, wrap := if 0 < k then bitB n.toNat 0 else true, origin := if 1 < k then bitB n.toNat 1 else false, insert := if 2 < k then bitB n.toNat 2 else false, hidden := if 3 < k then bitB n.toNat 3 else false, alt := if 4 < k then bitB n.toNat 4 else false, draw0 := if 5 < k then bitB n.toNat 5 else false, draw1 := if 6 < k then bitB n.toNat 6 else false, shift := if 7 < k then bitB n.toNat 7 else false }
theorem flK_end (w h top bot n tb : Int) : flK w h top bot n 8 = headK w h top bot n tb 0 := by
 unfold headK
 rw [tabsK_zero]
 rfl
theorem headK_next {w h top bot n tb : Int} {k : Nat} {v : Bool} (hv : v = bitB tb.toNat k) : ({ headK w h top bot n tb k with tabs := fun i => if i = ((k : Nat) : Int).toNat then v else (headK w h top bot n tb k).tabs i } : TS) = headK w h top bot n tb (k + 1) := by
 have : (fun i => if i = ((k : Nat) : Int).toNat then v else tabsK tb.toNat k i) = tabsK tb.toNat (k + 1) := by
  funext i
  rw [Int.toNat_natCast, hv]
  unfold tabsK
  by_cases h : i = k
  ·subst h; rw [if_pos rfl, if_pos (Nat.lt_succ_self i)]
  rw [if_neg h]
  by_cases h2 : i < k
  ·rw [if_pos h2, if_pos (by omega)]
  rw [if_neg h2, if_neg (by omega)]
 show ({ headT w h top bot n tb with tabs := fun i => if i = ((k : Nat) : Int).toNat then v else tabsK tb.toNat k i } : TS) = _
 rw [this]; rfl
set_option maxHeartbeats 4000000 in
theorem headR_any {sr rv D : Nat} {s0 s1 : RS} {ot : Option TS} {w : World} (hS : SrIn w sr rv D true s0) (hT : LT w) (hr7 : gTop ≤ rv) (hs7 : gTop ≤ sr) (hH : headR s0 = (ot, s1)) : Calls Tryd.prog 12 [pX sr].toArray w fun e w' =>
    ∃ v, e = .returned v ∧ SrIn w' sr rv D true s1 ∧ Ch (srB sr rv) w w' ∧ ((ot = none ∧ v = .pointer none) ∨ ∃ t T, ot = some T ∧ v = pX t ∧ TermAt w' t T (fun b => w.heap.size ≤ b ∧ b < w'.heap.size)) := by
  refine yA Tryd.func12 rfl ?_
  refine ysr ?_
  refine yp 1 [] .z ?_
  refine ye ?_
  refine ys ?_
  refine x_drawnB (fun j => j = rv) [9] (by kernel_rfl) (fun w10 hH11 hc12 => ?_)
  have hX13 : Ch (srB sr rv) w w10 := Ch.trans (Ch.refl (srB sr rv) w) hc12 eZ
  have hB14 := hS.blk.ch hc12 id
  have hA15 := hS.rd.ch hc12 id id
  refine ydC [0, 1, 2, 3, 5, 6, 7, 8] [] (fun u hu => (.l (cell_ch hu (hB14.c 0) hS.ne) (.l (cell_ch hu (hB14.c 0) hS.ne) .z))) ?_
  obtain ⟨x16, s17, hN18⟩ : ∃ x s', numR (61) s0 = (x, s') := ⟨_, _, rfl⟩
  have hbd21 := numR_bd (lim := 61) (s := s0)
  rw [hN18] at hbd21
  dsimp only at hbd21
  refine yH 4 (yQ (num_any (lim := 61) hA15 hN18 (by omega)) ?_)
  rintro w22 ⟨hA19, hc20⟩
  have hX23 : Ch (srB sr rv) w w22 := Ch.trans hX13 hc20 (fun _ _ h => .inr h)
  have hB24 := hB14.ch hc20 hS.ne
  refine x_heldB hc20 iZ ?_
  obtain ⟨x25, s26, hN27⟩ : ∃ x s', numR (61) s17 = (x, s') := ⟨_, _, rfl⟩
  have hbd30 := numR_bd (lim := 61) (s := s17)
  rw [hN27] at hbd30
  dsimp only at hbd30
  refine yK 9 (yQ (num_any (lim := 61) hA19 hN27 (by omega)) ?_)
  rintro w31 ⟨hA28, hc29⟩
  have hX32 : Ch (srB sr rv) w w31 := Ch.trans hX23 hc29 (fun _ _ h => .inr h)
  have hB33 := hB24.ch hc29 hS.ne
  refine x_killed ?_
  refine yd [10, 11] [] .z ?_
  refine yDe (nS ?_)
  refine ys ?_
  refine x_drawnB (fun j => j = rv) [13] (by kernel_rfl) (fun w34 hH35 hc36 => ?_)
  have hX37 : Ch (srB sr rv) w w34 := Ch.trans hX32 hc36 eZ
  have hB38 := hB33.ch hc36 id
  have hA39 := hA28.ch hc36 id id
  refine ydC [0, 1, 2, 3, 4, 5, 7, 8, 9, 10, 11, 12] [] (fun u hu => (.l (cell_ch hu (hB38.c 0) hS.ne) (.q6 (x25 + 1) (.l (cell_ch hu (hB38.c 0) hS.ne) (.q6 (x25 + 1) .z))))) ?_
  obtain ⟨x40, s41, hN42⟩ : ∃ x s', numR ((x25 + 1)) s26 = (x, s') := ⟨_, _, rfl⟩
  have hbd45 := numR_bd (lim := (x25 + 1)) (s := s26)
  rw [hN42] at hbd45
  dsimp only at hbd45
  refine yH 6 (yQ (num_any (lim := (x25 + 1)) hA39 hN42 (by omega)) ?_)
  rintro w46 ⟨hA43, hc44⟩
  have hX47 : Ch (srB sr rv) w w46 := Ch.trans hX37 hc44 (fun _ _ h => .inr h)
  have hB48 := hB38.ch hc44 hS.ne
  refine x_heldB hc44 iZ ?_
  obtain ⟨x49, s50, hN51⟩ : ∃ x s', numR ((x25 + 1)) s41 = (x, s') := ⟨_, _, rfl⟩
  have hbd54 := numR_bd (lim := (x25 + 1)) (s := s41)
  rw [hN51] at hbd54
  dsimp only at hbd54
  refine yK 13 (yQ (num_any (lim := (x25 + 1)) hA43 hN51 (by omega)) ?_)
  rintro w55 ⟨hA52, hc53⟩
  have hX56 : Ch (srB sr rv) w w55 := Ch.trans hX47 hc53 (fun _ _ h => .inr h)
  have hB57 := hB48.ch hc53 hS.ne
  refine x_killed ?_
  refine yd [14, 15] [] .z ?_
  refine yDe (nS ?_)
  refine ys ?_
  refine x_drawnB (fun j => j = rv) [9] (by kernel_rfl) (fun w58 hH59 hc60 => ?_)
  have hX61 : Ch (srB sr rv) w w58 := Ch.trans hX56 hc60 eZ
  have hB62 := hB57.ch hc60 id
  have hA63 := hA52.ch hc60 id id
  refine ydC [0, 1, 2, 3, 5, 6, 7, 8] [] (fun u hu => (.l (cell_ch hu (hB62.c 0) hS.ne) (.l (cell_ch hu (hB62.c 0) hS.ne) .z))) ?_
  obtain ⟨x64, s65, hN66⟩ : ∃ x s', numR (256) s50 = (x, s') := ⟨_, _, rfl⟩
  have hbd69 := numR_bd (lim := 256) (s := s50)
  rw [hN66] at hbd69
  dsimp only at hbd69
  refine yH 4 (yQ (num_any (lim := 256) hA63 hN66 (by omega)) ?_)
  rintro w70 ⟨hA67, hc68⟩
  have hX71 : Ch (srB sr rv) w w70 := Ch.trans hX61 hc68 (fun _ _ h => .inr h)
  have hB72 := hB62.ch hc68 hS.ne
  refine x_heldB hc68 iZ ?_
  obtain ⟨x73, s74, hN75⟩ : ∃ x s', numR (1152921504606846976) s65 = (x, s') := ⟨_, _, rfl⟩
  have hbd78 := numR_bd (lim := 1152921504606846976) (s := s65)
  rw [hN75] at hbd78
  dsimp only at hbd78
  refine yK 9 (yQ (num_any (lim := 1152921504606846976) hA67 hN75 (by omega)) ?_)
  rintro w79 ⟨hA76, hc77⟩
  have hX80 : Ch (srB sr rv) w w79 := Ch.trans hX71 hc77 (fun _ _ h => .inr h)
  have hB81 := hB72.ch hc77 hS.ne
  refine x_killed ?_
  refine yd (uL 10 3) [10] (.p (q := InR .u64 x73) (in_u64 (by omega) (by omega)) .z) ?_
  refine yDe (nS ?_)
  refine ys ?_
  refine ysr ?_
  refine yp 4 [] (.l (hB81.c 0) .z) ?_
  refine yo (yQ (good_any hA76) fun w83 hc82 => ?_)
  have hX84 : Ch (srB sr rv) w w83 := Ch.trans hX80 hc82 eZ
  have hB85 := hB81.ch hc82 id
  have hA86 := hA76.ch hc82 id id
  refine yp 7 [] .z ?_
  refine yw [55] (rN (rY s74.isSome)) (fun hC87 => ?_) fun hC87 => ?_
  · have hf88 := hC87
    refine yp 19 [] .z ?_
    refine ye ?_
    refine yct ?_
    refine ysr ?_
    refine yp 1 [] .z ?_
    refine ye ?_
    refine x_ret (rS (yR1 (.pointer none) ?_))
    rw [headR_eq hN18 hN27 hN42 hN51 hN66 hN75] at hH
    rw [if_pos (.inl hf88)] at hH
    simp only [Prod.mk.injEq] at hH
    obtain ⟨rfl, rfl⟩ := hH
    exact ⟨_, rfl, ⟨hB85, hA86, hS.ne, hS.nd⟩, hX84, .inl ⟨rfl, rfl⟩⟩
  · have hf89 := hC87
    refine yp 11 [] .z ?_
    refine yw [59] (rL x16 1) (fun hC90 => ?_) fun hC90 => ?_
    · have hf91 := hC90
      refine yp 19 [] .z ?_
      refine ye ?_
      refine yct ?_
      refine ysr ?_
      refine yp 1 [] .z ?_
      refine ye ?_
      refine x_ret (rS (yR1 (.pointer none) ?_))
      rw [headR_eq hN18 hN27 hN42 hN51 hN66 hN75] at hH
      rw [if_pos (.inr (.inl (by omega)))] at hH
      simp only [Prod.mk.injEq] at hH
      obtain ⟨rfl, rfl⟩ := hH
      exact ⟨_, rfl, ⟨hB85, hA86, hS.ne, hS.nd⟩, hX84, .inl ⟨rfl, rfl⟩⟩
    · have hf92 := hC90
      refine yp 15 [] .z ?_
      refine yw [63] (rL x25 1) (fun hC93 => ?_) fun hC93 => ?_
      · have hf94 := hC93
        refine yp 19 [] .z ?_
        refine ye ?_
        refine yct ?_
        refine ysr ?_
        refine yp 1 [] .z ?_
        refine ye ?_
        refine x_ret (rS (yR1 (.pointer none) ?_))
        rw [headR_eq hN18 hN27 hN42 hN51 hN66 hN75] at hH
        rw [if_pos (.inr (.inr (.inl (by omega))))] at hH
        simp only [Prod.mk.injEq] at hH
        obtain ⟨rfl, rfl⟩ := hH
        exact ⟨_, rfl, ⟨hB85, hA86, hS.ne, hS.nd⟩, hX84, .inl ⟨rfl, rfl⟩⟩
      · have hf95 := hC93
        refine yp 19 [] .z ?_
        refine ye ?_
        refine yc (rM x49 x40) (fun hC96 => ?_) fun hC96 => ?_
        · have hf97 := hC96
          refine ysr ?_
          refine yp 1 [] .z ?_
          refine ye ?_
          refine x_ret (rS (yR1 (.pointer none) ?_))
          rw [headR_eq hN18 hN27 hN42 hN51 hN66 hN75] at hH
          rw [if_pos (.inr (.inr (.inr (by omega))))] at hH
          simp only [Prod.mk.injEq] at hH
          obtain ⟨rfl, rfl⟩ := hH
          exact ⟨_, rfl, ⟨hB85, hA86, hS.ne, hS.nd⟩, hX84, .inl ⟨rfl, rfl⟩⟩
        · have hf98 := hC96
          refine yk ?_
          refine ysr ?_
          refine yp 2 [] .z ?_
          refine yo (yC (tnew_any x16 x25 _ (lt_ch hX84 hT (fun b h => h.elim (fun (h : b = sr) => by omega) (fun (h : b = rv) => by omega))) (by have := hS.rd.lt; have := Ch.size hX84; omega)) ?_)
          rintro _ w101 ⟨t, rfl, hA99, hc100⟩
          refine ⟨_, rfl, ?_⟩
          have hw7 : gTop ≤ w.heap.size := by have := hS.rd.lt; omega
          obtain ⟨g, o, ba, bn, bc, pa, pn, pc, F1, F2, FB, FP, hI⟩ := hA99
          have htlo0 := hI.inF.1.1
          have htlo : w.heap.size ≤ t := Nat.le_trans (Ch.size hX84) htlo0
          have hX102 : Ch (srB sr rv) w w101 := Ch.trans hX84 hc100 eZ
          have hB103 := hB85.ch hc100 id
          have hA104 := hA86.ch hc100 id id
          refine yp 4 [] .z ?_
          refine ye ?_
          refine ysr ?_
          refine yp 6 [] .z ?_
          refine yo (yS hI.blk fun w105 hB106 hc107 => ?_)
          have hS109 : Ch (fun j => j = t) w101 w105 := Ch.trans (Ch.refl (fun j => j = t) w101) hc107 iZ
          have ht110 : Blk _ t (TS.vals ({ (startT zeroT x16 x25) with top := x40 } : TS) g o (.slice ba bn bc) (.slice pa pn pc)) tTerm := Blk.to hB106 (by kernel_rfl)
          refine yp 9 [] .z ?_
          refine yo (yS ht110 fun w111 hB112 hc113 => ?_)
          have hS115 : Ch (fun j => j = t) w101 w111 := Ch.trans hS109 hc113 iZ
          have ht116 : Blk _ t (TS.vals ({ (startT zeroT x16 x25) with top := x40, bot := x49 } : TS) g o (.slice ba bn bc) (.slice pa pn pc)) tTerm := Blk.to hB112 (by kernel_rfl)
          refine ye ?_
          refine ys ?_
          refine yD [27, 28] fun w117 hH118 hc119 => ?_
          have hS120 : Ch (fun j => j = t) w101 w117 := Ch.trans hS115 hc119 eZ
          have ht121 := ht116.ch hc119 id
          refine ydT (uL 0 27) [] rfl (fun _ => (.i 0 (2) (.i 1 (2) .z))) ?_
          refine yK 27 (yN [.pointer none, .pointer none, .pointer none, .pointer none, .pointer none, .pointer none, .pointer none, .pointer none] 87 fun w122 b123 hb124 hz125 hB126 hc127 => ?_)
          have hS128 : Ch (fun j => j = t) w101 w122 := Ch.trans hS120 hc127 eZ
          have hlo129 : w101.heap.size ≤ b123 := by rw [hb124]; exact Ch.size hS120
          have ht130 := ht121.ch hc127 id
          refine x_killed ?_
          refine yK 28 (yS hB126 fun w131 hB132 hc133 => ?_)
          have hS134 : Ch (fun j => j = t) w101 w131 := Ch.trans hS128 hc133 (fun i hi (h : i = b123) => by have := hlo129; omega)
          have ht135 := ht130.ch hc133 (fun (h : t = b123) => by have := ht121.lt; omega)
          replace hB132 : Blk w131 b123 [.pointer (some ⟨t, 88, none⟩), .pointer (some ⟨t, 89, none⟩), .pointer (some ⟨t, 90, none⟩), .pointer (some ⟨t, 91, none⟩), .pointer (some ⟨t, 95, none⟩), .pointer (some ⟨t, 92, none⟩), .pointer (some ⟨t, 93, none⟩), .pointer (some ⟨t, 94, none⟩)] _ := Blk.to hB132 (by kernel_rfl)
          refine x_killed ?_
          refine yDe (nS ?_)
          refine x_seq_cut ([(8, .int .u64 x73), (9, pX t)]) (fun u => TermIn u t g o ba bn bc pa pn pc (headK x16 x25 x40 x49 x64 x73 0) (fun b => w83.heap.size ≤ b ∧ b < w101.heap.size) F1 F2 FB FP ∧ Blk u sr [pX rv, .bool true] tSr ∧ RdrAt u rv D s74 ∧ Ch (srB sr rv) w u) (fun K136 hK137 => ?_) (fun u138 hcut139 => ?_)
          · refine ysr ?_
            refine yp 2 [] (.a (hB132.cs 0 8) .z) ?_
            refine ye ?_
            refine x_block ?_
            have hI140 := hI.scalar (T' := ({ (startT zeroT x16 x25) with top := x40, bot := x49 } : TS)) hS134 ht135 rfl rfl rfl rfl
            refine ykeep [7, 8, 9, 106, 107] (f' := [(7, iX x64), (8, .int .u64 x73), (9, pX t), (106, .agg #[.pointer (some ⟨t, 88, none⟩), .pointer (some ⟨t, 89, none⟩), .pointer (some ⟨t, 90, none⟩), .pointer (some ⟨t, 91, none⟩), .pointer (some ⟨t, 95, none⟩), .pointer (some ⟨t, 92, none⟩), .pointer (some ⟨t, 93, none⟩), .pointer (some ⟨t, 94, none⟩)]), (107, iX 0)]) ?_
            refine x_loop (σ := Nat) (fun k => [(7, iX x64), (8, .int .u64 x73), (9, pX t), (106, .agg #[.pointer (some ⟨t, 88, none⟩), .pointer (some ⟨t, 89, none⟩), .pointer (some ⟨t, 90, none⟩), .pointer (some ⟨t, 91, none⟩), .pointer (some ⟨t, 95, none⟩), .pointer (some ⟨t, 92, none⟩), .pointer (some ⟨t, 93, none⟩), .pointer (some ⟨t, 94, none⟩)]), (107, iX ((k : Nat) : Int))]) (fun k u => k ≤ 8 ∧ TermIn u t g o ba bn bc pa pn pc (flK x16 x25 x40 x49 x64 k) (fun b => w83.heap.size ≤ b ∧ b < w101.heap.size) F1 F2 FB FP ∧ Ch (fun j => j = t) w101 u) (fun k => 8 - k) 0 rfl ?_ ?_
            · exact ⟨Nat.zero_le _, TermIn.eqT hI140 rfl, hS134⟩
            · intro k w141 hI142 K143 hL144
              obtain ⟨hk8, hIf, hSf⟩ := hI142
              refine ysr ?_
              refine yp 1 [] .z ?_
              refine ye ?_
              refine ys ?_
              refine yc (rL ((k : Nat) : Int) 8) (fun hC145 => ?_) fun hC145 => ?_
              · have hf146 := hC145
                rcases (by omega : k = 0 ∨ k = 1 ∨ k = 2 ∨ k = 3 ∨ k = 4 ∨ k = 5 ∨ k = 6 ∨ k = 7) with rfl | rfl | rfl | rfl | rfl | rfl | rfl | rfl
                · refine yk ?_
                  refine ys ?_
                  refine x_block ?_
                  refine ysr ?_
                  refine yp 4 [] .z ?_
                  refine ye ?_
                  refine x_region ?_
                  refine yp 7 [] (.p (q := 0 ≤ (0 : Int)) (by omega) .z) ?_
                  refine yo (yS hIf.blk fun w147 hB148 hc149 => ?_)
                  have hS151 : Ch (fun j => j = t) w141 w147 := Ch.trans (Ch.refl (fun j => j = t) w141) hc149 iZ
                  have ht152 : Blk _ t (TS.vals ({ (flK x16 x25 x40 x49 x64 0) with wrap := (((bitsv .and .i64 (Int.fdiv x64 (2 ^ min (0 : Int).toNat (IntKind.bits .i64))) 1) : Int) == 1) } : TS) g o (.slice ba bn bc) (.slice pa pn pc)) tTerm := Blk.to hB148 (by kernel_rfl)
                  refine yE (nB (nS ?_))
                  refine x_region ?_
                  refine yp 2 [] (.q6 1 .z) ?_
                  have hI153 := hIf.scalar (T' := ({ (flK x16 x25 x40 x49 x64 0) with wrap := (((bitsv .and .i64 (Int.fdiv x64 (2 ^ min (0 : Int).toNat (IntKind.bits .i64))) 1) : Int) == 1) } : TS)) hS151 ht152 rfl rfl rfl rfl
                  refine yE (fun a ha => hL144 1 _ ⟨by decide, TermIn.eqT hI153 (by rw [bitJ_eq hbd69.1 (i63 hbd69.2.1) 0 0 (by decide) rfl]; rfl), Ch.trans hSf hS151 iZ⟩ (by show 8 - (0 + 1) < 8 - 0; omega) a (ha.kp [7, 8, 9, 106, 107]))
                · refine yk ?_
                  refine ys ?_
                  refine x_block ?_
                  refine ysr ?_
                  refine yp 4 [] .z ?_
                  refine ye ?_
                  refine x_region ?_
                  refine yp 7 [] (.p (q := 0 ≤ (1 : Int)) (by omega) .z) ?_
                  refine yo (yS hIf.blk fun w154 hB155 hc156 => ?_)
                  have hS158 : Ch (fun j => j = t) w141 w154 := Ch.trans (Ch.refl (fun j => j = t) w141) hc156 iZ
                  have ht159 : Blk _ t (TS.vals ({ (flK x16 x25 x40 x49 x64 1) with origin := (((bitsv .and .i64 (Int.fdiv x64 (2 ^ min (1 : Int).toNat (IntKind.bits .i64))) 1) : Int) == 1) } : TS) g o (.slice ba bn bc) (.slice pa pn pc)) tTerm := Blk.to hB155 (by kernel_rfl)
                  refine yE (nB (nS ?_))
                  refine x_region ?_
                  refine yp 2 [] (.q6 2 .z) ?_
                  have hI160 := hIf.scalar (T' := ({ (flK x16 x25 x40 x49 x64 1) with origin := (((bitsv .and .i64 (Int.fdiv x64 (2 ^ min (1 : Int).toNat (IntKind.bits .i64))) 1) : Int) == 1) } : TS)) hS158 ht159 rfl rfl rfl rfl
                  refine yE (fun a ha => hL144 2 _ ⟨by decide, TermIn.eqT hI160 (by rw [bitJ_eq hbd69.1 (i63 hbd69.2.1) 1 1 (by decide) rfl]; rfl), Ch.trans hSf hS158 iZ⟩ (by show 8 - (1 + 1) < 8 - 1; omega) a (ha.kp [7, 8, 9, 106, 107]))
                · refine yk ?_
                  refine ys ?_
                  refine x_block ?_
                  refine ysr ?_
                  refine yp 4 [] .z ?_
                  refine ye ?_
                  refine x_region ?_
                  refine yp 7 [] (.p (q := 0 ≤ (2 : Int)) (by omega) .z) ?_
                  refine yo (yS hIf.blk fun w161 hB162 hc163 => ?_)
                  have hS165 : Ch (fun j => j = t) w141 w161 := Ch.trans (Ch.refl (fun j => j = t) w141) hc163 iZ
                  have ht166 : Blk _ t (TS.vals ({ (flK x16 x25 x40 x49 x64 2) with insert := (((bitsv .and .i64 (Int.fdiv x64 (2 ^ min (2 : Int).toNat (IntKind.bits .i64))) 1) : Int) == 1) } : TS) g o (.slice ba bn bc) (.slice pa pn pc)) tTerm := Blk.to hB162 (by kernel_rfl)
                  refine yE (nB (nS ?_))
                  refine x_region ?_
                  refine yp 2 [] (.q6 3 .z) ?_
                  have hI167 := hIf.scalar (T' := ({ (flK x16 x25 x40 x49 x64 2) with insert := (((bitsv .and .i64 (Int.fdiv x64 (2 ^ min (2 : Int).toNat (IntKind.bits .i64))) 1) : Int) == 1) } : TS)) hS165 ht166 rfl rfl rfl rfl
                  refine yE (fun a ha => hL144 3 _ ⟨by decide, TermIn.eqT hI167 (by rw [bitJ_eq hbd69.1 (i63 hbd69.2.1) 2 2 (by decide) rfl]; rfl), Ch.trans hSf hS165 iZ⟩ (by show 8 - (2 + 1) < 8 - 2; omega) a (ha.kp [7, 8, 9, 106, 107]))
                · refine yk ?_
                  refine ys ?_
                  refine x_block ?_
                  refine ysr ?_
                  refine yp 4 [] .z ?_
                  refine ye ?_
                  refine x_region ?_
                  refine yp 7 [] (.p (q := 0 ≤ (3 : Int)) (by omega) .z) ?_
                  refine yo (yS hIf.blk fun w168 hB169 hc170 => ?_)
                  have hS172 : Ch (fun j => j = t) w141 w168 := Ch.trans (Ch.refl (fun j => j = t) w141) hc170 iZ
                  have ht173 : Blk _ t (TS.vals ({ (flK x16 x25 x40 x49 x64 3) with hidden := (((bitsv .and .i64 (Int.fdiv x64 (2 ^ min (3 : Int).toNat (IntKind.bits .i64))) 1) : Int) == 1) } : TS) g o (.slice ba bn bc) (.slice pa pn pc)) tTerm := Blk.to hB169 (by kernel_rfl)
                  refine yE (nB (nS ?_))
                  refine x_region ?_
                  refine yp 2 [] (.q6 4 .z) ?_
                  have hI174 := hIf.scalar (T' := ({ (flK x16 x25 x40 x49 x64 3) with hidden := (((bitsv .and .i64 (Int.fdiv x64 (2 ^ min (3 : Int).toNat (IntKind.bits .i64))) 1) : Int) == 1) } : TS)) hS172 ht173 rfl rfl rfl rfl
                  refine yE (fun a ha => hL144 4 _ ⟨by decide, TermIn.eqT hI174 (by rw [bitJ_eq hbd69.1 (i63 hbd69.2.1) 3 3 (by decide) rfl]; rfl), Ch.trans hSf hS172 iZ⟩ (by show 8 - (3 + 1) < 8 - 3; omega) a (ha.kp [7, 8, 9, 106, 107]))
                · refine yk ?_
                  refine ys ?_
                  refine x_block ?_
                  refine ysr ?_
                  refine yp 4 [] .z ?_
                  refine ye ?_
                  refine x_region ?_
                  refine yp 7 [] (.p (q := 0 ≤ (4 : Int)) (by omega) .z) ?_
                  refine yo (yS hIf.blk fun w175 hB176 hc177 => ?_)
                  have hS179 : Ch (fun j => j = t) w141 w175 := Ch.trans (Ch.refl (fun j => j = t) w141) hc177 iZ
                  have ht180 : Blk _ t (TS.vals ({ (flK x16 x25 x40 x49 x64 4) with alt := (((bitsv .and .i64 (Int.fdiv x64 (2 ^ min (4 : Int).toNat (IntKind.bits .i64))) 1) : Int) == 1) } : TS) g o (.slice ba bn bc) (.slice pa pn pc)) tTerm := Blk.to hB176 (by kernel_rfl)
                  refine yE (nB (nS ?_))
                  refine x_region ?_
                  refine yp 2 [] (.q6 5 .z) ?_
                  have hI181 := hIf.scalar (T' := ({ (flK x16 x25 x40 x49 x64 4) with alt := (((bitsv .and .i64 (Int.fdiv x64 (2 ^ min (4 : Int).toNat (IntKind.bits .i64))) 1) : Int) == 1) } : TS)) hS179 ht180 rfl rfl rfl rfl
                  refine yE (fun a ha => hL144 5 _ ⟨by decide, TermIn.eqT hI181 (by rw [bitJ_eq hbd69.1 (i63 hbd69.2.1) 4 4 (by decide) rfl]; rfl), Ch.trans hSf hS179 iZ⟩ (by show 8 - (4 + 1) < 8 - 4; omega) a (ha.kp [7, 8, 9, 106, 107]))
                · refine yk ?_
                  refine ys ?_
                  refine x_block ?_
                  refine ysr ?_
                  refine yp 4 [] .z ?_
                  refine ye ?_
                  refine x_region ?_
                  refine yp 7 [] (.p (q := 0 ≤ (5 : Int)) (by omega) .z) ?_
                  refine yo (yS hIf.blk fun w182 hB183 hc184 => ?_)
                  have hS186 : Ch (fun j => j = t) w141 w182 := Ch.trans (Ch.refl (fun j => j = t) w141) hc184 iZ
                  have ht187 : Blk _ t (TS.vals ({ (flK x16 x25 x40 x49 x64 5) with draw0 := (((bitsv .and .i64 (Int.fdiv x64 (2 ^ min (5 : Int).toNat (IntKind.bits .i64))) 1) : Int) == 1) } : TS) g o (.slice ba bn bc) (.slice pa pn pc)) tTerm := Blk.to hB183 (by kernel_rfl)
                  refine yE (nB (nS ?_))
                  refine x_region ?_
                  refine yp 2 [] (.q6 6 .z) ?_
                  have hI188 := hIf.scalar (T' := ({ (flK x16 x25 x40 x49 x64 5) with draw0 := (((bitsv .and .i64 (Int.fdiv x64 (2 ^ min (5 : Int).toNat (IntKind.bits .i64))) 1) : Int) == 1) } : TS)) hS186 ht187 rfl rfl rfl rfl
                  refine yE (fun a ha => hL144 6 _ ⟨by decide, TermIn.eqT hI188 (by rw [bitJ_eq hbd69.1 (i63 hbd69.2.1) 5 5 (by decide) rfl]; rfl), Ch.trans hSf hS186 iZ⟩ (by show 8 - (5 + 1) < 8 - 5; omega) a (ha.kp [7, 8, 9, 106, 107]))
                · refine yk ?_
                  refine ys ?_
                  refine x_block ?_
                  refine ysr ?_
                  refine yp 4 [] .z ?_
                  refine ye ?_
                  refine x_region ?_
                  refine yp 7 [] (.p (q := 0 ≤ (6 : Int)) (by omega) .z) ?_
                  refine yo (yS hIf.blk fun w189 hB190 hc191 => ?_)
                  have hS193 : Ch (fun j => j = t) w141 w189 := Ch.trans (Ch.refl (fun j => j = t) w141) hc191 iZ
                  have ht194 : Blk _ t (TS.vals ({ (flK x16 x25 x40 x49 x64 6) with draw1 := (((bitsv .and .i64 (Int.fdiv x64 (2 ^ min (6 : Int).toNat (IntKind.bits .i64))) 1) : Int) == 1) } : TS) g o (.slice ba bn bc) (.slice pa pn pc)) tTerm := Blk.to hB190 (by kernel_rfl)
                  refine yE (nB (nS ?_))
                  refine x_region ?_
                  refine yp 2 [] (.q6 7 .z) ?_
                  have hI195 := hIf.scalar (T' := ({ (flK x16 x25 x40 x49 x64 6) with draw1 := (((bitsv .and .i64 (Int.fdiv x64 (2 ^ min (6 : Int).toNat (IntKind.bits .i64))) 1) : Int) == 1) } : TS)) hS193 ht194 rfl rfl rfl rfl
                  refine yE (fun a ha => hL144 7 _ ⟨by decide, TermIn.eqT hI195 (by rw [bitJ_eq hbd69.1 (i63 hbd69.2.1) 6 6 (by decide) rfl]; rfl), Ch.trans hSf hS193 iZ⟩ (by show 8 - (6 + 1) < 8 - 6; omega) a (ha.kp [7, 8, 9, 106, 107]))
                · refine yk ?_
                  refine ys ?_
                  refine x_block ?_
                  refine ysr ?_
                  refine yp 4 [] .z ?_
                  refine ye ?_
                  refine x_region ?_
                  refine yp 7 [] (.p (q := 0 ≤ (7 : Int)) (by omega) .z) ?_
                  refine yo (yS hIf.blk fun w196 hB197 hc198 => ?_)
                  have hS200 : Ch (fun j => j = t) w141 w196 := Ch.trans (Ch.refl (fun j => j = t) w141) hc198 iZ
                  have ht201 : Blk _ t (TS.vals ({ (flK x16 x25 x40 x49 x64 7) with shift := (((bitsv .and .i64 (Int.fdiv x64 (2 ^ min (7 : Int).toNat (IntKind.bits .i64))) 1) : Int) == 1) } : TS) g o (.slice ba bn bc) (.slice pa pn pc)) tTerm := Blk.to hB197 (by kernel_rfl)
                  refine yE (nB (nS ?_))
                  refine x_region ?_
                  refine yp 2 [] (.q6 8 .z) ?_
                  have hI202 := hIf.scalar (T' := ({ (flK x16 x25 x40 x49 x64 7) with shift := (((bitsv .and .i64 (Int.fdiv x64 (2 ^ min (7 : Int).toNat (IntKind.bits .i64))) 1) : Int) == 1) } : TS)) hS200 ht201 rfl rfl rfl rfl
                  refine yE (fun a ha => hL144 8 _ ⟨by decide, TermIn.eqT hI202 (by rw [bitJ_eq hbd69.1 (i63 hbd69.2.1) 7 7 (by decide) rfl]; rfl), Ch.trans hSf hS200 iZ⟩ (by show 8 - (7 + 1) < 8 - 7; omega) a (ha.kp [7, 8, 9, 106, 107]))
              · have hf203 := hC145
                have hk88 : k = 8 := by omega
                subst hk88
                refine x_exit (eS (then_exit (block_exit (fun a ha => hK137 _ ⟨TermIn.eqT hIf (flK_end x16 x25 x40 x49 x64 x73), hB103.ch hSf (fun (h : sr = t) => by have := htlo; have := hS.blk.lt; omega), hA104.ch hSf (fun (h : rv = t) => by have := htlo; have := hS.rd.lt; omega) (fun (h : D = t) => by have := htlo; have := hS.rd.dlt; omega), Ch.trans hX102 hSf (fun i hi (h : i = t) => by have := htlo; omega)⟩ a (ha.kp [8, 9])))))
          · obtain ⟨hIc, hBc, hRc, hcc⟩ := hcut139
            refine ys ?_
            refine ysr ?_
            refine yp 1 [] .z ?_
            refine ye ?_
            refine x_block ?_
            refine ykeep [8, 9, 119] (f' := [(8, .int .u64 x73), (9, pX t), (119, iX 0)]) ?_
            refine x_loop (σ := Nat) (fun k => [(8, .int .u64 x73), (9, pX t), (119, iX ((k : Nat) : Int))]) (fun k u => k ≤ 60 ∧ TermIn u t g o ba bn bc pa pn pc (headK x16 x25 x40 x49 x64 x73 k) (fun b => w83.heap.size ≤ b ∧ b < w101.heap.size) F1 F2 FB FP ∧ Blk u sr [pX rv, .bool true] tSr ∧ RdrAt u rv D s74 ∧ Ch (srB sr rv) w u) (fun k => 60 - k) 0 rfl ?_ ?_
            · exact ⟨Nat.zero_le _, hIc, hBc, hRc, hcc⟩
            · intro k w204 hI205 K206 hL207
              obtain ⟨hk, hIk, hB, hR, hcx⟩ := hI205
              refine ysr ?_
              refine yp 1 [] .z ?_
              refine ye ?_
              refine ys ?_
              refine yc (rL ((k : Nat) : Int) 60) (fun hC208 => ?_) fun hC208 => ?_
              · have hf209 := hC208
                refine yk ?_
                refine ys ?_
                refine x_block ?_
                refine ysr ?_
                refine yp 2 [] .z ?_
                refine ye ?_
                refine yD [10] fun w210 hH211 hc212 => ?_
                have hX213 : Ch (srB sr rv) w w210 := Ch.trans hcx hc212 eZ
                have hS214 : Ch (fun j => j = t) w204 w210 := Ch.trans (Ch.refl (fun j => j = t) w204) hc212 eZ
                have ht215 := hIk.blk.ch hc212 id
                have hB216 := hB.ch hc212 id
                have hA217 := hR.ch hc212 id id
                refine yd (uL 0 10) [] (.p (q := 0 ≤ (((k : Nat) : Int) : Int)) (by omega) (.i ((k : Nat) : Int) (60) .z)) ?_
                refine yK 10 (e_store (28 + (((k : Nat) : Int) : Int).toNat * 1) [.bool (((bitsv .and .u64 (Int.fdiv x73 (2 ^ min (((k : Nat) : Int) : Int).toNat (IntKind.bits .u64))) 1) : Int) == 1)] none (by kernel_rfl) ht215 (by rw [tvals_len]; simp only [List.length_cons, List.length_nil]; omega) ?_)
                intro w218 hB219 hc220
                replace hB219 : Blk w218 t (TS.vals ({ (headK x16 x25 x40 x49 x64 x73 k) with tabs := (fun i => if i = (((k : Nat) : Int) : Int).toNat then (((bitsv .and .u64 (Int.fdiv x73 (2 ^ min (((k : Nat) : Int) : Int).toNat (IntKind.bits .u64))) 1) : Int) == 1) else (headK x16 x25 x40 x49 x64 x73 k).tabs i) } : TS) g o (.slice ba bn bc) (.slice pa pn pc)) tTerm := Blk.to hB219 (tabs_put (headK x16 x25 x40 x49 x64 x73 k) _ _ _ _ _ (by omega) _)
                have hX221 : Ch (srB sr rv) w w218 := Ch.trans hX213 hc220 (fun i hi (h : i = t) => by have := htlo; omega)
                have hS222 : Ch (fun j => j = t) w204 w218 := Ch.trans hS214 hc220 iZ
                have hB223 := hB216.ch hc220 (fun (h : sr = t) => by have := htlo; have := hS.blk.lt; omega)
                have hA224 := hA217.ch hc220 (fun (h : rv = t) => by have := htlo; have := hS.rd.lt; omega) (fun (h : D = t) => by have := htlo; have := hS.rd.dlt; omega)
                refine x_killed ?_
                refine yDe (nB (nS ?_))
                refine x_region ?_
                refine yp 2 [] (.q6 (((k : Nat) : Int) + 1) .z) ?_
                have hI225 := hIk.scalar (T' := ({ (headK x16 x25 x40 x49 x64 x73 k) with tabs := (fun i => if i = (((k : Nat) : Int) : Int).toNat then (((bitsv .and .u64 (Int.fdiv x73 (2 ^ min (((k : Nat) : Int) : Int).toNat (IntKind.bits .u64))) 1) : Int) == 1) else (headK x16 x25 x40 x49 x64 x73 k).tabs i) } : TS)) hS222 hB219 rfl rfl rfl rfl
                have hI226 := hI225
                rw [headK_next (bitI_eq .u64 (.inr rfl) hbd78.1 (i63 hbd78.2.1) k (by omega))] at hI226
                refine yE (fun a ha => hL207 (k + 1) _ ⟨by omega, hI226, hB223, hA224, hX221⟩ (by show 60 - (k + 1) < 60 - k; omega) a (ha.kp [8, 9, 119]))
              · have hf227 := hC208
                refine x_exit (eS (then_exit (block_exit (nS ?_))))
                refine ysr ?_
                refine yp 2 [] .z ?_
                refine ye ?_
                refine x_ret (yR1 (pX t) ?_)
                rw [headR_eq hN18 hN27 hN42 hN51 hN66 hN75] at hH
                rw [if_neg (by rintro (h | h | h | h); exact absurd (hf89.symm.trans h) (by decide); omega; omega; omega)] at hH
                simp only [Prod.mk.injEq] at hH
                obtain ⟨rfl, rfl⟩ := hH
                have hk60 : k = 60 := by omega
                subst hk60
                have hs1 := Ch.size hX84
                have hs2 := hIk.lt
                have hs3 := Ch.size hcx
                exact ⟨_, rfl, ⟨hB, hR, hS.ne, hS.nd⟩, hcx, .inr ⟨t, _, rfl, rfl, TermAt.mono ⟨g, o, ba, bn, bc, pa, pn, pc, F1, F2, FB, FP, (show TermIn _ t g o ba bn bc pa pn pc (headT x16 x25 x40 x49 x64 x73) _ F1 F2 FB FP from hIk)⟩ (fun b hb => ⟨by have := hb.1; omega, by have := hs2 b hb; have := Ch.size (Ch.refl (fun j => j = t) w204); omega⟩) (fun b hb => ⟨hb.2, by have := hb.1; omega⟩)⟩⟩
end Go.Proofs.YtclnfbmmaofpjaaDoor.X
namespace Go.Proofs.YtclnfbmmaofpjaaDoor.X
open Go Go.RowKit Go.Proofs.YtclnfbmmaofpjaaDoor
theorem tailR_eq {T : TS} {W H : Int} {s s1 s2 s3 s4 s5 s6 s7 s8 s9 : RS} {a b c : Cur} {ha hb hc f4 f5 f6 f9 : Bool} {d e k : List (List Cel)} {t r : ByteArray} {p : PS}
  (h1 : curR W H s = (a, ha, s1)) (h2 : curR W H s1 = (b, hb, s2)) (h3 : curR W H s2 = (c, hc, s3)) (h4 : linesF W H.toNat [] s3 ((ha && hb) && hc) = (d, s4, f4)) (h5 : linesF W H.toNat [] s4 f4 = (e, s5, f5)) (h6 : backR s5 f5 = (k, s6, f6))
  (h7 : textR 40 s6 = (t, s7)) (h8 : textR 400 s7 = (r, s8)) (h9 : parsR s8 f6 = (p, s9, f9)) :
  tailR T W H s = if f9 = true ∧ s9 = some [] then some { T with cursor := a, saved := b, away := c, grid := ⟨W, H, d⟩, other := ⟨W, H, e⟩, back := k, title := t, reply := r, parser := p } else none := by
 unfold tailR
 rw [h1]
 dsimp only
 rw [h2]
 dsimp only
 rw [h3]
 dsimp only
 rw [h4]
 dsimp only
 rw [h5]
 dsimp only
 rw [h6]
 dsimp only
 rw [h7]
 dsimp only
 rw [h8]
 dsimp only
 rw [h9]
def rowOf (x : RowO) : Row := ⟨x.b.getD 0, x.n, x.cap, x.l⟩
section
variable {w : World} {m n cap : Nat} {o : Option Nat} {rows : List RowO}
theorem RowsO.some (h : RowsO w m rows) {x : RowO} (hx : x ∈ rows) (hl : 0 < x.l.length) : ∃ b, x.b = Option.some b := by
 obtain ⟨h1, h2⟩ := h.line x hx
 exact own_someC h1 (by omega)
theorem RowsO.val (h : RowsO w m rows) (hl : ∀ x ∈ rows, 0 < x.l.length) : rows.map RowO.val = (rows.map rowOf).map Row.val := by
 rw [List.map_map]
 refine List.map_congr_left fun x hx => ?_
 obtain ⟨b, hb⟩ := h.some hx (hl x hx)
 show Value.slice (x.b.map at0) x.n x.cap = Value.slice (Option.some ⟨x.b.getD 0, 0, none⟩) x.n x.cap
 rw [hb]; rfl
theorem RowsO.each (h : RowsO w m rows) (hl : ∀ x ∈ rows, 0 < x.l.length) : ∀ y ∈ rows.map rowOf, (LineAt w y.b y.l y.cap ∧ y.l.length = y.n) ∧ m ≤ y.b ∧ ∃ x ∈ rows, x.b = Option.some y.b := fun y hy => by
 obtain ⟨x, hx, rfl⟩ := List.mem_map.1 hy
 obtain ⟨b, hb⟩ := h.some hx (hl x hx)
 obtain ⟨h1, h2⟩ := h.line x hx
 have e : (rowOf x).b = b := by show x.b.getD 0 = b; rw [hb]; rfl
 refine ⟨⟨?_, h2⟩, ?_, x, hx, by rw [e, hb]⟩
 ·unfold LineAt
  rw [e]
  show Own w tCell 6 (Option.some b) x.l.length x.cap (flat x.l)
  rw [h2, ← hb]
  exact h1
 ·rw [e]; exact h.lo x hx b hb
theorem RowsO.nodup (h : RowsO w m rows) (hl : ∀ x ∈ rows, 0 < x.l.length) : ((rows.map rowOf).map Row.b).Nodup := by
 rw [List.map_map]
 refine List.pairwise_map.2 (h.nd.imp_of_mem fun {x y} hx hy hxy => ?_)
 obtain ⟨b, hb⟩ := h.some hx (hl x hx)
 obtain ⟨c, hc⟩ := h.some hy (hl y hy)
 show ¬ x.b.getD 0 = y.b.getD 0
 rw [hb, hc]
 intro e
 refine hxy b hb ?_
 rw [hc]
 exact congrArg Option.some e.symm
theorem OutO.grid (h : OutO w m o n cap rows) {g : Nat} {W H : Int} (hg : Blk w g [.int .i64 W, .int .i64 H, .slice (o.map at0) n cap] tGrid) (hgm : g < m) (hW : 1 ≤ W ∧ W ≤ 60) (hH : 1 ≤ H ∧ H ≤ 60) (hn : rows.length = H.toNat) (hl : ∀ x ∈ rows, (x.l.length : Int) = W)
  {F : Nat → Prop} (hF : F g ∧ (∀ b, o = some b → F b) ∧ ∀ x ∈ rows, ∀ b, x.b = some b → F b) (hlt : ∀ b, F b → b < w.heap.size) (hhi : ∀ b, F b → gTop ≤ b) : GridAt w g ⟨W, H, rows.map RowO.l⟩ F := by
 have hl0 : ∀ x ∈ rows, 0 < x.l.length := fun x hx => by have := hl x hx; omega
 have hlen := h.len
 obtain ⟨r, rfl⟩ := own_someC h.own (by omega)
 have hrm := h.lo r rfl
 have hR := h.rs.each hl0
 refine ⟨r, cap, rows.map rowOf, ?_⟩
 exact
 {head := by rw [List.length_map, hlen]; exact hg
  body := by rw [List.length_map, hlen, ← h.rs.val hl0]; exact h.own
  line := fun y hy => (hR y hy).1
  lines := by rw [List.map_map]; rfl
  ok := ⟨hW, hH, by rw [List.length_map]; exact hn, fun l hl' => by
   obtain ⟨x, hx, rfl⟩ := List.mem_map.1 hl'
   have := hl x hx
   show x.l.length = W.toNat
   omega⟩
  gr := by omega
  gb := fun y hy => by
   obtain ⟨_, h2, x, hx, hb⟩ := hR y hy
   exact ⟨by omega, fun e => h.off h.own x hx _ hb (by rw [e])⟩
  nodup := h.rs.nodup hl0
  inF := ⟨hF.1, hF.2.1 r rfl, fun y hy => by obtain ⟨_, _, x, hx, hb⟩ := hR y hy; exact hF.2.2 x hx _ hb⟩
  lt := hlt
  hi := hhi }
theorem OutO.linesAt (h : OutO w m o n cap rows) (hl : ∀ x ∈ rows, 0 < x.l.length) {K : Nat → Prop} (hK : (∀ b, o = some b → K b) ∧ ∀ x ∈ rows, ∀ b, x.b = some b → K b) (hlt : ∀ b, K b → b < w.heap.size) (hhi : ∀ b, K b → gTop ≤ b) : LinesAt w (o.map at0) n (rows.map rowOf) K := by
 have hR := h.rs.each hl
 exact
 {rd := by rw [← h.rs.val hl]; exact h.own.rd
  len := by rw [List.length_map]; exact h.len
  line := fun y hy => (hR y hy).1
  inK := fun y hy => by obtain ⟨_, _, x, hx, hb⟩ := hR y hy; exact hK.2 x hx _ hb
  aK := fun ad e => by
   cases o with
   | none => cases e
   | some b => cases e; exact hK.1 b rfl
  lt := hlt
  hi := hhi }
end
structure Under (o : Option Nat) (rows : List RowO) (m : Nat) : Prop where
 o : ∀ b, o = some b → b < m
 r : ∀ x ∈ rows, ∀ b, x.b = some b → b < m
theorem OutO.under {w : World} {m n cap : Nat} {o : Option Nat} {rows : List RowO} (h : OutO w m o n cap rows) : Under o rows w.heap.size :=
 ⟨fun b e => by have := h.own; rw [e] at this; exact this.lt, fun x hx b e => h.rs.lt x hx b e⟩
theorem term_of {w : World} {t g q m0 m1 m2 m3 m4 n1 c1 n2 c2 n3 c3 n4 c4 : Nat} {o1 o2 o3 o4 : Option Nat} {r1 r2 r3 : List RowO} {T : TS} (hd : DecOk T)
  (hb : Blk w t (T.vals g q (.slice (o3.map at0) n3 c3) (.slice (o4.map at0) n4 c4)) tTerm)
  (hg : Blk w g [.int .i64 T.grid.w, .int .i64 T.grid.h, .slice (o1.map at0) n1 c1] tGrid) (hq : Blk w q [.int .i64 T.grid.w, .int .i64 T.grid.h, .slice (o2.map at0) n2 c2] tGrid)
  (h1 : OutO w m1 o1 n1 c1 r1) (h2 : OutO w m2 o2 n2 c2 r2) (h3 : OutO w m3 o3 n3 c3 r3) (h4 : Own w tI 1 o4 n4 c4 (T.parser.params.map (Value.int .i64))) (l4 : ∀ b, o4 = some b → m4 ≤ b)
  (e1 : T.grid.lines = r1.map RowO.l) (e2 : T.other.lines = r2.map RowO.l) (e3 : T.back = r3.map RowO.l)
  (k1 : Under o1 r1 m2) (k2 : Under o2 r2 m3) (k3 : Under o3 r3 m4) (h7 : gTop ≤ m0) (ht : m0 ≤ t ∧ t < m1) (hgm : m0 ≤ g ∧ g < m1) (hqm : m0 ≤ q ∧ q < m1) (htg : ¬ t = g) (htq : ¬ t = q) (hgq : ¬ g = q) (hm : m1 ≤ m2 ∧ m2 ≤ m3 ∧ m3 ≤ m4 ∧ m4 ≤ w.heap.size) :
  TermAt w t T (fun b => m0 ≤ b ∧ b < w.heap.size) := by
 obtain ⟨⟨G1w, G1h, G1l⟩, ⟨G2w, G2h, G2l⟩, cu, sa, aw, top, bot, tabs, wr, og, ins, hid, d0, d1, sh, al, ti, bk, pp, re⟩ := T
 have u3 := h3.under
 have hw := hd.w
 have hh := hd.h
 obtain ⟨hw2, hh2⟩ := hd.o
 have g1 := hd.g
 have g2 := hd.g2
 have k0 := hd.k
 dsimp only at *
 subst e1 e2 e3 hw2 hh2
 have a1 : ∀ x ∈ r1, (x.l.length : Int) = G2w := fun x hx => (g1.2 _ (List.mem_map_of_mem hx)).1
 have a2 : ∀ x ∈ r2, (x.l.length : Int) = G2w := fun x hx => (g2.2 _ (List.mem_map_of_mem hx)).1
 have a3 : ∀ x ∈ r3, 0 < x.l.length := fun x hx => (k0.2 _ (List.mem_map_of_mem hx)).1
 have gg1 := h1.grid hg (by omega) hw hh (by have := g1.1; rwa [List.length_map] at this) a1 (F := fun b => b = g ∨ (m1 ≤ b ∧ b < m2)) ⟨.inl rfl, fun b e => .inr ⟨h1.lo b e, k1.o b e⟩, fun x hx b e => .inr ⟨h1.rs.lo x hx b e, k1.r x hx b e⟩⟩ (fun b hb => by omega) (fun b hb => by omega)
 have gg2 := h2.grid hq (by omega) hw hh (by have := g2.1; rwa [List.length_map] at this) a2 (F := fun b => b = q ∨ (m2 ≤ b ∧ b < m3)) ⟨.inl rfl, fun b e => .inr ⟨h2.lo b e, k2.o b e⟩, fun x hx b e => .inr ⟨h2.rs.lo x hx b e, k2.r x hx b e⟩⟩ (fun b hb => by omega) (fun b hb => by omega)
 have gg3 := h3.linesAt a3 (K := fun b => m3 ≤ b ∧ b < m4) ⟨fun b e => ⟨h3.lo b e, k3.o b e⟩, fun x hx b e => ⟨h3.rs.lo x hx b e, k3.r x hx b e⟩⟩ (fun b hb => by omega) (fun b hb => by omega)
 refine ⟨g, q, o3.map at0, n3, c3, o4.map at0, n4, c4, fun b => b = g ∨ (m1 ≤ b ∧ b < m2), fun b => b = q ∨ (m2 ≤ b ∧ b < m3), fun b => m3 ≤ b ∧ b < m4, fun b => m4 ≤ b ∧ b < w.heap.size, ?_⟩
 exact
 {blk := hb
  g1 := gg1
  g2 := gg2
  bk := ⟨_, gg3, by rw [List.map_map]; rfl⟩
  bcap := ⟨h3.own.2.1, fun e => by
   cases o3 with
   | none => exact (h3.own.2.2.2.1 rfl).2
   | some b => cases e⟩
  ps := ⟨h4.rd, by have := h4.1; rwa [List.length_map, Nat.mul_one] at this, (fun e => by
   cases o4 with
   | none => exact (h4.2.2.2.1 rfl).2
   | some b => cases e), fun ad e => by
   cases o4 with
   | none => cases e
   | some b => cases e; exact ⟨l4 b rfl, h4.lt⟩⟩
  pz := ⟨o4, rfl⟩
  bz := by
   cases o3 with
   | none => exact .inl rfl
   | some b => exact .inr ⟨b, 0, rfl⟩
  t1 := fun h => by omega
  t2 := fun h => by omega
  tB := fun h => by omega
  tP := fun h => by omega
  a12 := fun b h1 h2 => by omega
  a1B := fun b h1 h2 => by omega
  a2B := fun b h1 h2 => by omega
  a1P := fun b h1 h2 => by omega
  a2P := fun b h1 h2 => by omega
  inF := ⟨by omega, fun b h => by omega, fun b h => by omega, fun b h => by omega, fun b h => by omega⟩
  lt := fun b h => h.2
  hi := fun b h => by omega }
end Go.Proofs.YtclnfbmmaofpjaaDoor.X
namespace Go.Proofs.YtclnfbmmaofpjaaDoor.X
open Go Go.RowKit Go.Proofs.YtclnfbmmaofpjaaDoor
theorem decT_none {s s1 : RS} (h : headR s = (none, s1)) : decT s = none := by unfold decT; rw [h]
theorem decT_tail {s s1 : RS} {T : TS} (h : headR s = (some T, s1)) : decT s = tailR T T.grid.w T.grid.h s1 := by unfold decT; rw [h]
theorem headR_oth {s s1 : RS} {T : TS} (h : headR s = (some T, s1)) : T.other = T.grid := by
 unfold headR at h
 dsimp only at h
 split at h
 ·cases h
 simp only [Prod.mk.injEq, Option.some.injEq] at h
 rw [← h.1]; rfl
set_option maxHeartbeats 4000000 in
theorem decode_any (D : Nat) (a : Option Addr) (n cap : Nat) (us : List Int) (ot : Option TS) (w : World) (hT : LT w) (h7 : gTop ≤ w.heap.size) (hr : Rd w a (u8s us)) (hl : us.length = n) (hle : n ≤ cap) (hz : (n = 0 ∧ cap = 0) ∨ ∃ o, a = some ⟨D, o, none⟩) (hb : byts us) (hn : n ≤ 1000000) (hD : D < w.heap.size) (hX : decT (some us) = ot) : Calls Tryd.prog 5 [.slice a n cap].toArray w fun e w' =>
    ∃ v x, e = .returned (.tuple #[v, iX x]) ∧ Ch (fun _ => False) w w' ∧ ((ot = none ∧ v = .pointer none ∧ x = 1) ∨ ∃ t T, ot = some T ∧ v = pX t ∧ x = 0 ∧ TermAt w' t T (fun b => w.heap.size ≤ b ∧ b < w'.heap.size)) := by
  refine yA Tryd.func5 rfl ?_
  refine ysr ?_
  refine yp 2 [] .z ?_
  refine ye ?_
  refine ysr ?_
  refine yp 1 [] .z ?_
  refine yo (yC (of_any D a n cap us _ hr hl hle hz hb hn hD) ?_)
  rintro _ w12 ⟨rv, rfl, hrvlo, hA10, hc11⟩
  refine ⟨_, rfl, ?_⟩
  have hu13 := Up.step (Up.refl w.heap.size w) hc11 iZ
  have hrsB := hA10.rs
  refine yp 3 [] .z ?_
  refine yo (yN [pX rv, .bool true] 57 fun w16 sr hsb hz15 hBs hc14 => ?_)
  have hslo : w.heap.size ≤ sr := by rw [hsb]; exact Ch.size hu13
  have hsrv : ¬ sr = rv := by have := hA10.lt; omega
  have hsD : ¬ sr = D := by omega
  have hu17 := Up.step hu13 hc14 iZ
  have hA18 := hA10.ch hc14 id id
  have hslt := hBs.lt
  have hrlt := hA18.lt
  refine yp 5 [] .z ?_
  refine ye ?_
  refine ysr ?_
  refine yp 1 [] .z ?_
  obtain ⟨ot0, s1, hH⟩ : ∃ o s', headR (some us) = (o, s') := ⟨_, _, rfl⟩
  refine yo (yC (headR_any ⟨hBs, hA18, hsrv, hsD⟩ (lt_ch (Up.ch hu17) hT (fun _ h => h.elim)) (by omega) (by omega) hH) ?_)
  rintro _ w20 ⟨v0, rfl, hSh, hc19, hv0⟩
  refine ⟨_, rfl, ?_⟩
  have hu21 := Up.step hu17 hc19 (fun i hi h => h.elim (fun (h : i = sr) => by omega) (fun (h : i = rv) => by omega))
  rcases hv0 with ⟨rfl, rfl⟩ | ⟨t, T, rfl, rfl, hA0⟩
  · refine yp 3 [] .z ?_
    refine ye ?_
    refine ys ?_
    refine ysr ?_
    refine yp 2 [] .z ?_
    refine ye ?_
    refine yct ?_
    refine ysr ?_
    refine yp 2 [] .z ?_
    refine ye ?_
    refine x_ret (rS (yR2 [.pointer none, iX 1] .z ?_))
    rw [decT_none hH] at hX
    exact ⟨_, _, rfl, Up.ch hu21, .inl ⟨hX.symm, rfl, rfl⟩⟩
  · obtain ⟨g, q, ba, bn, bc, pa, pn, pc, F1, F2, FB, FP, hI⟩ := hA0
    obtain ⟨r1, rc1, rw1, hG1⟩ := hI.g1
    obtain ⟨r2, rc2, rw2, hG2⟩ := hI.g2
    have ht0 := hI.inF.1
    have hg0 := hI.inF.2.1 g hG1.inF.1
    have hq0 := hI.inF.2.2.1 q hG2.inF.1
    have htg : Df t g := fun e => hI.t1 (e ▸ hG1.inF.1)
    have htq : Df t q := fun e => hI.t2 (e ▸ hG2.inF.1)
    have hgq : Df g q := fun e => hI.a12 g hG1.inF.1 (e ▸ hG2.inF.1)
    obtain ⟨hgw, hgh, _⟩ := hG1.ok
    have htsr : Df t sr := (show ¬ t = sr by omega)
    have htrv : Df t rv := (show ¬ t = rv by omega)
    have hgsr : Df g sr := (show ¬ g = sr by omega)
    have hgrv : Df g rv := (show ¬ g = rv by omega)
    have hqsr : Df q sr := (show ¬ q = sr by omega)
    have hqrv : Df q rv := (show ¬ q = rv by omega)
    have hsr2 : Df sr rv := hsrv
    have hwt : w.heap.size ≤ t := by have := Ch.size hu17; omega
    have hwg : w.heap.size ≤ g := by have := Ch.size hu17; omega
    have hwq : w.heap.size ≤ q := by have := Ch.size hu17; omega
    refine yp 3 [] .z ?_
    refine ye ?_
    refine ys ?_
    refine ysr ?_
    refine yp 2 [] .z ?_
    refine ye ?_
    refine ycf ?_
    refine yk ?_
    refine ys ?_
    refine ys ?_
    refine yD [9] fun w22 hH23 hc24 => ?_
    have hu25 := Up.step hu21 hc24 iZ
    have hm26 : Ch (fun _ => True) w20 w22 := Ch.trans (Ch.refl (fun _ => True) w20) hc24 (fun _ _ _ => trivial)
    have hB27 := hSh.blk.ch hc24 id
    have hA28 := hSh.rd.ch hc24 id id
    have ht29 := hI.blk.ch hc24 id
    have hB30 := hG1.head.ch hc24 id
    have hB31 := hG2.head.ch hc24 id
    refine yd [0, 1, 2, 3, 4, 5, 6, 7, 8, 11] [] .z ?_
    refine yK 9 (yB [.pointer (some ⟨t, 2, none⟩), .pointer (some ⟨t, 10, none⟩), .pointer (some ⟨t, 18, none⟩)] 59 3 fun w32 b33 hb34 hz35 hB36 hc37 => ?_)
    have hlo39 : w.heap.size ≤ b33 := by rw [hb34]; exact Ch.size hu25
    have hu38 := Up.step hu25 hc37 iZ
    have hm40 : Ch (fun _ => True) w20 w32 := Ch.trans hm26 hc37 (fun _ _ _ => trivial)
    have hB41 := hB27.ch hc37 id
    have hA42 := hA28.ch hc37 id id
    have ht43 := ht29.ch hc37 id
    have hB44 := hB30.ch hc37 id
    have hB45 := hB31.ch hc37 id
    refine x_killed ?_
    refine yd [10] [] .z ?_
    refine yDe (nS ?_)
    refine x_block ?_
    refine yU 4 (yU1 ?_)
    refine ysr ?_
    refine yp 1 [] .z ?_
    refine ye ?_
    refine ys ?_
    refine yct ?_
    refine yk ?_
    refine ys ?_
    refine x_block ?_
    refine ysr ?_
    refine yp 3 [] (.i 0 (3) (.l (hB36.c 0) .z)) ?_
    refine ye ?_
    refine yD [16, 18] fun w46 hH47 hc48 => ?_
    have hu49 := Up.step hu38 hc48 iZ
    have hm50 : Ch (fun _ => True) w20 w46 := Ch.trans hm40 hc48 (fun _ _ _ => trivial)
    have hB51 := hB41.ch hc48 id
    have hA52 := hA42.ch hc48 id id
    have ht53 := ht43.ch hc48 id
    have hB54 := hB44.ch hc48 id
    have hB55 := hB45.ch hc48 id
    have hB56 := hB36.ch hc48 id
    refine yd (uL 0 16) [] (.l (ht53.c 0) (.l (hB54.c 0) (.l (ht53.c 0) (.l (hB54.c 1) .z)))) ?_
    obtain ⟨c57, ok58, s59, hC60⟩ : ∃ c ok s', curR T.grid.w T.grid.h s1 = (c, ok, s') := ⟨_, _, _, rfl⟩
    refine yK 16 (yQ (cursorR_any ⟨hB51, hA52, hsrv, hsD⟩ hC60 (by omega) (by omega)) ?_)
    rintro w63 ⟨hS61, hc62⟩
    have hu64 := Up.step hu49 hc62 (fun i hi h => h.elim (fun (h : i = sr) => by omega) (fun (h : i = rv) => by omega))
    have hm65 : Ch (fun _ => True) w20 w63 := Ch.trans hm50 hc62 (fun _ _ _ => trivial)
    have ht66 := ht53.ch hc62 (fun h => h.elim htsr htrv)
    have hB67 := hB54.ch hc62 (fun h => h.elim hgsr hgrv)
    have hB68 := hB55.ch hc62 (fun h => h.elim hqsr hqrv)
    have hB69 := hB56.ch hc62 (fun h => h.elim (fun (h : b33 = sr) => by have := hB27.lt; omega) (fun (h : b33 = rv) => by have := hA28.lt; omega))
    refine x_killed ?_
    refine yd [17] [] .z ?_
    refine yK 18 (yS ht66 fun w70 hB71 hc72 => ?_)
    have hu74 := Up.step hu64 hc72 (fun i hi (h : i = t) => by omega)
    have hm75 : Ch (fun _ => True) w20 w70 := Ch.trans hm65 hc72 (fun _ _ _ => trivial)
    have hB76 := hB67.ch hc72 (fun h => htg h.symm)
    have hB77 := hB68.ch hc72 (fun h => htq h.symm)
    have hB78 := hB69.ch hc72 (fun (h : b33 = t) => by have := ht29.lt; omega)
    have hB79 := hS61.blk.ch hc72 (fun h => htsr h.symm)
    have hA80 := hS61.rd.ch hc72 (fun h => htrv h.symm) (fun (h : D = t) => by omega)
    have ht81 : Blk _ t (TS.vals ({ T with cursor := c57 } : TS) g q (.slice ba bn bc) (.slice pa pn pc)) tTerm := Blk.to hB71 (by kernel_rfl)
    refine x_killed ?_
    refine yDe (nB (nS ?_))
    refine x_region ?_
    refine yp 2 [] (.q6 1 .z) ?_
    refine yE (nU (yU1 ?_))
    refine ysr ?_
    refine yp 1 [] .z ?_
    refine ye ?_
    refine ys ?_
    refine yct ?_
    refine yk ?_
    refine ys ?_
    refine x_block ?_
    refine ysr ?_
    refine yp 3 [] (.i 1 (3) (.l (hB78.c 1) .z)) ?_
    refine ye ?_
    refine yD [16, 18] fun w82 hH83 hc84 => ?_
    have hu85 := Up.step hu74 hc84 iZ
    have hm86 : Ch (fun _ => True) w20 w82 := Ch.trans hm75 hc84 (fun _ _ _ => trivial)
    have hB87 := hB76.ch hc84 id
    have hB88 := hB77.ch hc84 id
    have hB89 := hB78.ch hc84 id
    have hB90 := hB79.ch hc84 id
    have hA91 := hA80.ch hc84 id id
    have ht92 := ht81.ch hc84 id
    refine yd (uL 0 16) [] (.l (ht92.c 0) (.l (hB87.c 0) (.l (ht92.c 0) (.l (hB87.c 1) .z)))) ?_
    obtain ⟨c93, ok94, s95, hC96⟩ : ∃ c ok s', curR T.grid.w T.grid.h s59 = (c, ok, s') := ⟨_, _, _, rfl⟩
    refine yK 16 (yQ (cursorR_any ⟨hB90, hA91, hsrv, hsD⟩ hC96 (by omega) (by omega)) ?_)
    rintro w99 ⟨hS97, hc98⟩
    have hu100 := Up.step hu85 hc98 (fun i hi h => h.elim (fun (h : i = sr) => by omega) (fun (h : i = rv) => by omega))
    have hm101 : Ch (fun _ => True) w20 w99 := Ch.trans hm86 hc98 (fun _ _ _ => trivial)
    have hB102 := hB87.ch hc98 (fun h => h.elim hgsr hgrv)
    have hB103 := hB88.ch hc98 (fun h => h.elim hqsr hqrv)
    have hB104 := hB89.ch hc98 (fun h => h.elim (fun (h : b33 = sr) => by have := hB27.lt; omega) (fun (h : b33 = rv) => by have := hA28.lt; omega))
    have ht105 := ht92.ch hc98 (fun h => h.elim htsr htrv)
    refine x_killed ?_
    refine yd [17] [] .z ?_
    refine yK 18 (yS ht105 fun w106 hB107 hc108 => ?_)
    have hu110 := Up.step hu100 hc108 (fun i hi (h : i = t) => by omega)
    have hm111 : Ch (fun _ => True) w20 w106 := Ch.trans hm101 hc108 (fun _ _ _ => trivial)
    have hB112 := hB102.ch hc108 (fun h => htg h.symm)
    have hB113 := hB103.ch hc108 (fun h => htq h.symm)
    have hB114 := hB104.ch hc108 (fun (h : b33 = t) => by have := ht29.lt; omega)
    have hB115 := hS97.blk.ch hc108 (fun h => htsr h.symm)
    have hA116 := hS97.rd.ch hc108 (fun h => htrv h.symm) (fun (h : D = t) => by omega)
    have ht117 : Blk _ t (TS.vals ({ T with cursor := c57, saved := c93 } : TS) g q (.slice ba bn bc) (.slice pa pn pc)) tTerm := Blk.to hB107 (by kernel_rfl)
    refine x_killed ?_
    refine yDe (nB (nS ?_))
    refine x_region ?_
    refine yp 2 [] (.q6 2 .z) ?_
    refine yE (nU (yU1 ?_))
    refine ysr ?_
    refine yp 1 [] .z ?_
    refine ye ?_
    refine ys ?_
    refine yct ?_
    refine yk ?_
    refine ys ?_
    refine x_block ?_
    refine ysr ?_
    refine yp 3 [] (.i 2 (3) (.l (hB114.c 2) .z)) ?_
    refine ye ?_
    refine yD [16, 18] fun w118 hH119 hc120 => ?_
    have hu121 := Up.step hu110 hc120 iZ
    have hm122 : Ch (fun _ => True) w20 w118 := Ch.trans hm111 hc120 (fun _ _ _ => trivial)
    have hB123 := hB112.ch hc120 id
    have hB124 := hB113.ch hc120 id
    have hB126 := hB115.ch hc120 id
    have hA127 := hA116.ch hc120 id id
    have ht128 := ht117.ch hc120 id
    refine yd (uL 0 16) [] (.l (ht128.c 0) (.l (hB123.c 0) (.l (ht128.c 0) (.l (hB123.c 1) .z)))) ?_
    obtain ⟨c129, ok130, s131, hC132⟩ : ∃ c ok s', curR T.grid.w T.grid.h s95 = (c, ok, s') := ⟨_, _, _, rfl⟩
    refine yK 16 (yQ (cursorR_any ⟨hB126, hA127, hsrv, hsD⟩ hC132 (by omega) (by omega)) ?_)
    rintro w135 ⟨hS133, hc134⟩
    have hu136 := Up.step hu121 hc134 (fun i hi h => h.elim (fun (h : i = sr) => by omega) (fun (h : i = rv) => by omega))
    have hm137 : Ch (fun _ => True) w20 w135 := Ch.trans hm122 hc134 (fun _ _ _ => trivial)
    have hB138 := hB123.ch hc134 (fun h => h.elim hgsr hgrv)
    have hB139 := hB124.ch hc134 (fun h => h.elim hqsr hqrv)
    have ht141 := ht128.ch hc134 (fun h => h.elim htsr htrv)
    refine x_killed ?_
    refine yd [17] [] .z ?_
    refine yK 18 (yS ht141 fun w142 hB143 hc144 => ?_)
    have hu146 := Up.step hu136 hc144 (fun i hi (h : i = t) => by omega)
    have hm147 : Ch (fun _ => True) w20 w142 := Ch.trans hm137 hc144 (fun _ _ _ => trivial)
    have hB148 := hB138.ch hc144 (fun h => htg h.symm)
    have hB149 := hB139.ch hc144 (fun h => htq h.symm)
    have hB151 := hS133.blk.ch hc144 (fun h => htsr h.symm)
    have hA152 := hS133.rd.ch hc144 (fun h => htrv h.symm) (fun (h : D = t) => by omega)
    have ht153 : Blk _ t (TS.vals ({ T with cursor := c57, saved := c93, away := c129 } : TS) g q (.slice ba bn bc) (.slice pa pn pc)) tTerm := Blk.to hB143 (by kernel_rfl)
    refine x_killed ?_
    refine yDe (nB (nS ?_))
    refine x_region ?_
    refine yp 2 [] (.q6 3 .z) ?_
    refine yE (nU (yU1 ?_))
    refine ysr ?_
    refine yp 1 [] .z ?_
    refine ye ?_
    refine ys ?_
    refine ycf ?_
    refine x_exit (eS (then_exit (block_exit (nS ?_))))
    refine ys ?_
    refine ys ?_
    refine yD [8] fun w154 hH155 hc156 => ?_
    have hu157 := Up.step hu146 hc156 iZ
    have hm158 : Ch (fun _ => True) w20 w154 := Ch.trans hm147 hc156 (fun _ _ _ => trivial)
    have hB159 := hB148.ch hc156 id
    have hB160 := hB149.ch hc156 id
    have hB162 := hB151.ch hc156 id
    have hA163 := hA152.ch hc156 id id
    have ht164 := ht153.ch hc156 id
    refine yd [0, 1, 2, 3, 4, 5, 6, 7, 10] [] (.l (ht164.c 0) (.l (ht164.c 1) .z)) ?_
    refine yK 8 (yB [pX g, pX q] 28 2 fun w165 b166 hb167 hz168 hB169 hc170 => ?_)
    have hlo172 : w.heap.size ≤ b166 := by rw [hb167]; exact Ch.size hu157
    have hu171 := Up.step hu157 hc170 iZ
    have hm173 : Ch (fun _ => True) w20 w165 := Ch.trans hm158 hc170 (fun _ _ _ => trivial)
    have hB174 := hB159.ch hc170 id
    have hB175 := hB160.ch hc170 id
    have hB177 := hB162.ch hc170 id
    have hA178 := hA163.ch hc170 id id
    have ht179 := ht164.ch hc170 id
    refine x_killed ?_
    refine yd [9] [] .z ?_
    refine yDe (nS ?_)
    refine x_block ?_
    refine yU 3 (yU1 ?_)
    refine ysr ?_
    refine yp 1 [] .z ?_
    refine ye ?_
    refine ys ?_
    refine yct ?_
    refine yk ?_
    refine ys ?_
    refine x_block ?_
    refine ysr ?_
    refine yp 3 [] (.i 0 (2) (.l (hB169.c 0) .z)) ?_
    refine ye ?_
    refine yD [16, 19] fun w180 hH181 hc182 => ?_
    have hu183 := Up.step hu171 hc182 iZ
    have hm184 : Ch (fun _ => True) w20 w180 := Ch.trans hm173 hc182 (fun _ _ _ => trivial)
    have hB185 := hB174.ch hc182 id
    have hB186 := hB175.ch hc182 id
    have hB188 := hB177.ch hc182 id
    have hA189 := hA178.ch hc182 id id
    have ht190 := ht179.ch hc182 id
    have hB191 := hB169.ch hc182 id
    refine yd (uL 0 16) [] (.l (ht190.c 0) (.l (hB185.c 0) (.l (ht190.c 0) (.l (hB185.c 1) .z)))) ?_
    have hmk1 : w20.heap.size ≤ w180.heap.size := Ch.size hm184
    obtain ⟨ll192, s193, f194, hL195⟩ : ∃ l s' f', linesF T.grid.w (T.grid.h : Int).toNat [] s131 (((true && ok58) && ok94) && ok130) = (l, s', f') := ⟨_, _, _, rfl⟩
    refine yK 16 (yC (linesR_any ⟨hB188, hA189, hsrv, hsD⟩ (lt_ch (Up.ch hu183) hT (fun _ h => h.elim)).tb (by omega) (by omega) (by omega) (by omega) hL195) ?_)
    rintro _ w204 ⟨o196, n197, cap198, rows199, rfl, hO200, hrl201, hS202, hc203⟩
    refine ⟨_, rfl, ?_⟩
    have hu205 := Up.step hu183 hc203 (fun i hi h => h.elim (fun (h : i = sr) => by omega) (fun (h : i = rv) => by omega))
    have hm206 : Ch (fun _ => True) w180 w204 := Ch.trans (Ch.refl (fun _ => True) w180) hc203 (fun _ _ _ => trivial)
    have hB207 := hB185.ch hc203 (fun h => h.elim hgsr hgrv)
    have hB208 := hB186.ch hc203 (fun h => h.elim hqsr hqrv)
    have ht210 := ht190.ch hc203 (fun h => h.elim htsr htrv)
    have hB211 := hB191.ch hc203 (fun h => h.elim (fun (h : b166 = sr) => by have := hB162.lt; omega) (fun (h : b166 = rv) => by have := hA163.lt; omega))
    refine x_killed ?_
    refine yd [17, 18] [] .z ?_
    refine dkeep [4, 5, 60, 61, 62, 82, 84] (f' := [(4, pX sr), (5, pX t), (60, .slice (some ⟨b166, 0, none⟩) 2 2), (61, iX 2), (62, iX 0), (82, .slice (o196.map at0) n197 cap198), (84, .pointer (some ⟨g, 2, none⟩))]) ?_
    refine yK 19 (yS hB207 fun w212 hB213 hc214 => ?_)
    have hu215 := Up.step hu205 hc214 (fun i hi (h : i = g) => by omega)
    have hm216 : Ch (fun _ => True) w180 w212 := Ch.trans hm206 hc214 (fun _ _ _ => trivial)
    have hB217 := hB208.ch hc214 (fun h => hgq h.symm)
    have ht219 := ht210.ch hc214 htg
    have hB220 := hB211.ch hc214 (fun (h : b166 = g) => by have := hB159.lt; omega)
    have hB221 := hS202.blk.ch hc214 (fun h => hgsr h.symm)
    have hA222 := hS202.rd.ch hc214 (fun h => hgrv h.symm) (fun (h : D = g) => by omega)
    have hO223 := hO200.ch hc214 (fun b hb hl (h : b = g) => by omega)
    replace hB213 : Blk w212 g [iX T.grid.w, iX T.grid.h, .slice (o196.map at0) n197 cap198] _ := Blk.to hB213 (by kernel_rfl)
    refine x_killed ?_
    refine yDe (nB (nS ?_))
    refine x_region ?_
    refine yp 2 [] (.q6 1 .z) ?_
    refine yE (nU (yU1 ?_))
    refine ysr ?_
    refine yp 1 [] .z ?_
    refine ye ?_
    refine ys ?_
    refine yct ?_
    refine yk ?_
    refine ys ?_
    refine x_block ?_
    refine ysr ?_
    refine yp 3 [] (.i 1 (2) (.l (hB220.c 1) .z)) ?_
    refine ye ?_
    refine yD [16, 19] fun w224 hH225 hc226 => ?_
    have hu227 := Up.step hu215 hc226 iZ
    have hm228 : Ch (fun _ => True) w180 w224 := Ch.trans hm216 hc226 (fun _ _ _ => trivial)
    have hB229 := hB217.ch hc226 id
    have ht231 := ht219.ch hc226 id
    have hB233 := hB221.ch hc226 id
    have hA234 := hA222.ch hc226 id id
    have hO235 := hO223.ch hc226 (fun _ _ _ h => h)
    have hB236 := hB213.ch hc226 id
    refine yd (uL 0 16) [] (.l (ht231.c 0) (.l (hB236.c 0) (.l (ht231.c 0) (.l (hB236.c 1) .z)))) ?_
    have hmk2 : w180.heap.size ≤ w224.heap.size := Ch.size hm228
    obtain ⟨ll237, s238, f239, hL240⟩ : ∃ l s' f', linesF T.grid.w (T.grid.h : Int).toNat [] s193 f194 = (l, s', f') := ⟨_, _, _, rfl⟩
    have hun1 := hO235.under
    refine yK 16 (yC (linesR_any ⟨hB233, hA234, hsrv, hsD⟩ (lt_ch (Up.ch hu227) hT (fun _ h => h.elim)).tb (by omega) (by omega) (by omega) (by omega) hL240) ?_)
    rintro _ w249 ⟨o241, n242, cap243, rows244, rfl, hO245, hrl246, hS247, hc248⟩
    refine ⟨_, rfl, ?_⟩
    have hu250 := Up.step hu227 hc248 (fun i hi h => h.elim (fun (h : i = sr) => by omega) (fun (h : i = rv) => by omega))
    have hm251 : Ch (fun _ => True) w224 w249 := Ch.trans (Ch.refl (fun _ => True) w224) hc248 (fun _ _ _ => trivial)
    have hB252 := hB229.ch hc248 (fun h => h.elim hqsr hqrv)
    have ht254 := ht231.ch hc248 (fun h => h.elim htsr htrv)
    have hO256 := hO235.ch hc248 (fun b hb hl h => h.elim (fun (h : b = sr) => by omega) (fun (h : b = rv) => by omega))
    have hB257 := hB236.ch hc248 (fun h => h.elim hgsr hgrv)
    refine x_killed ?_
    refine yd [17, 18] [] .z ?_
    refine yK 19 (yS hB252 fun w258 hB259 hc260 => ?_)
    have hu261 := Up.step hu250 hc260 (fun i hi (h : i = q) => by omega)
    have hm262 : Ch (fun _ => True) w224 w258 := Ch.trans hm251 hc260 (fun _ _ _ => trivial)
    have ht264 := ht254.ch hc260 htq
    have hO266 := hO256.ch hc260 (fun b hb hl (h : b = q) => by omega)
    have hB267 := hB257.ch hc260 hgq
    have hB268 := hS247.blk.ch hc260 (fun h => hqsr h.symm)
    have hA269 := hS247.rd.ch hc260 (fun h => hqrv h.symm) (fun (h : D = q) => by omega)
    have hO270 := hO245.ch hc260 (fun b hb hl (h : b = q) => by omega)
    replace hB259 : Blk w258 q [iX T.other.w, iX T.other.h, .slice (o241.map at0) n242 cap243] _ := Blk.to hB259 (by kernel_rfl)
    refine x_killed ?_
    refine yDe (nB (nS ?_))
    refine x_region ?_
    refine yp 2 [] (.q6 2 .z) ?_
    refine yE (nU (yU1 ?_))
    refine ysr ?_
    refine yp 1 [] .z ?_
    refine ye ?_
    refine ys ?_
    refine ycf ?_
    refine x_exit (eS (then_exit (block_exit (nS ?_))))
    refine ysr ?_
    refine yp 2 [] .z ?_
    have hmk3 : w224.heap.size ≤ w258.heap.size := Ch.size hm262
    obtain ⟨ll271, s272, f273, hL274⟩ : ∃ l s' f', backR s238 f239 = (l, s', f') := ⟨_, _, _, rfl⟩
    have hun2 := hO270.under
    refine yo (yC (backR_any ⟨hB268, hA269, hsrv, hsD⟩ (lt_ch (Up.ch hu261) hT (fun _ h => h.elim)).tb (by omega) (by omega) hL274) ?_)
    rintro _ w283 ⟨o275, n276, cap277, rows278, rfl, hO279, hrl280, hS281, hc282⟩
    refine ⟨_, rfl, ?_⟩
    have hu284 := Up.step hu261 hc282 (fun i hi h => h.elim (fun (h : i = sr) => by omega) (fun (h : i = rv) => by omega))
    have hm285 : Ch (fun _ => True) w258 w283 := Ch.trans (Ch.refl (fun _ => True) w258) hc282 (fun _ _ _ => trivial)
    have ht287 := ht264.ch hc282 (fun h => h.elim htsr htrv)
    have hO289 := hO266.ch hc282 (fun b hb hl h => h.elim (fun (h : b = sr) => by omega) (fun (h : b = rv) => by omega))
    have hB290 := hB267.ch hc282 (fun h => h.elim hgsr hgrv)
    have hO291 := hO270.ch hc282 (fun b hb hl h => h.elim (fun (h : b = sr) => by omega) (fun (h : b = rv) => by omega))
    have hB292 := hB259.ch hc282 (fun h => h.elim hqsr hqrv)
    refine yp 5 [] .z ?_
    refine yo (yS ht287 fun w293 hB294 hc295 => ?_)
    have hu297 := Up.step hu284 hc295 (fun i hi (h : i = t) => by omega)
    have hm298 : Ch (fun _ => True) w258 w293 := Ch.trans hm285 hc295 (fun _ _ _ => trivial)
    have hO301 := hO289.ch hc295 (fun b hb hl (h : b = t) => by omega)
    have hB302 := hB290.ch hc295 (fun h => htg h.symm)
    have hO303 := hO291.ch hc295 (fun b hb hl (h : b = t) => by omega)
    have hB304 := hB292.ch hc295 (fun h => htq h.symm)
    have hB305 := hS281.blk.ch hc295 (fun h => htsr h.symm)
    have hA306 := hS281.rd.ch hc295 (fun h => htrv h.symm) (fun (h : D = t) => by omega)
    have hO307 := hO279.ch hc295 (fun b hb hl (h : b = t) => by omega)
    have ht308 : Blk _ t (TS.vals ({ T with back := ll271, cursor := c57, saved := c93, away := c129 } : TS) g q (.slice (o275.map at0) n276 cap277) (.slice pa pn pc)) tTerm := Blk.to hB294 (by kernel_rfl)
    refine ye ?_
    refine ys ?_
    refine x_drawnB (fun j => j = rv) [11, 14, 17] (by kernel_rfl) (fun w309 hH310 hc311 => ?_)
    have hu312 := Up.step hu297 hc311 iZ
    have hm313 : Ch (fun _ => True) w258 w309 := Ch.trans hm298 hc311 (fun _ _ _ => trivial)
    have hO316 := hO301.ch hc311 (fun _ _ _ h => h)
    have hB317 := hB302.ch hc311 id
    have hO318 := hO303.ch hc311 (fun _ _ _ h => h)
    have hB319 := hB304.ch hc311 id
    have hB320 := hB305.ch hc311 id
    have hA321 := hA306.ch hc311 id id
    have hO322 := hO307.ch hc311 (fun _ _ _ h => h)
    have ht323 := ht308.ch hc311 id
    refine ydC [0, 1, 2, 3, 4, 5, 7, 8, 9, 10] [] (fun u hu => (.l (cell_ch hu (hB320.c 0) hsr2) (.l (cell_ch hu (hB320.c 0) hsr2) .z))) ?_
    obtain ⟨x324, s325, hN326⟩ : ∃ x s', textR 40 s272 = (x, s') := ⟨_, _, rfl⟩
    refine yH 6 (yQ (text_anyR (most := 40) hA321 hN326 (by decide)) ?_)
    rintro w329 ⟨hA327, hc328⟩
    have hu330 := Up.step hu312 hc328 (fun i hi (h : i = rv) => by omega)
    have hm331 : Ch (fun _ => True) w258 w329 := Ch.trans hm313 hc328 (fun _ _ _ => trivial)
    have hO334 := hO316.ch hc328 (fun b hb hl (h : b = rv) => by omega)
    have hB335 := hB317.ch hc328 hgrv
    have hO336 := hO318.ch hc328 (fun b hb hl (h : b = rv) => by omega)
    have hB337 := hB319.ch hc328 hqrv
    have hB338 := hB320.ch hc328 hsr2
    have hO339 := hO322.ch hc328 (fun b hb hl (h : b = rv) => by omega)
    have ht340 := ht323.ch hc328 htrv
    refine x_heldB hc328 iZ ?_
    obtain ⟨x341, s342, hN343⟩ : ∃ x s', textR 400 s325 = (x, s') := ⟨_, _, rfl⟩
    refine yK 11 (yQ (text_anyR (most := 400) hA327 hN343 (by decide)) ?_)
    rintro w346 ⟨hA344, hc345⟩
    have hu347 := Up.step hu330 hc345 (fun i hi (h : i = rv) => by omega)
    have hm348 : Ch (fun _ => True) w258 w346 := Ch.trans hm331 hc345 (fun _ _ _ => trivial)
    have hO351 := hO334.ch hc345 (fun b hb hl (h : b = rv) => by omega)
    have hB352 := hB335.ch hc345 hgrv
    have hO353 := hO336.ch hc345 (fun b hb hl (h : b = rv) => by omega)
    have hB354 := hB337.ch hc345 hqrv
    have hB355 := hB338.ch hc345 hsr2
    have hO356 := hO339.ch hc345 (fun b hb hl (h : b = rv) => by omega)
    have ht357 := ht340.ch hc345 htrv
    refine x_killed ?_
    refine yd [12, 13] [] .z ?_
    refine yK 14 (yS ht357 fun w358 hB359 hc360 => ?_)
    have hu362 := Up.step hu347 hc360 (fun i hi (h : i = t) => by omega)
    have hm363 : Ch (fun _ => True) w258 w358 := Ch.trans hm348 hc360 (fun _ _ _ => trivial)
    have hO366 := hO351.ch hc360 (fun b hb hl (h : b = t) => by omega)
    have hB367 := hB352.ch hc360 (fun h => htg h.symm)
    have hO368 := hO353.ch hc360 (fun b hb hl (h : b = t) => by omega)
    have hB369 := hB354.ch hc360 (fun h => htq h.symm)
    have hB370 := hB355.ch hc360 (fun h => htsr h.symm)
    have hO371 := hO356.ch hc360 (fun b hb hl (h : b = t) => by omega)
    have hA372 := hA344.ch hc360 (fun h => htrv h.symm) (fun (h : D = t) => by omega)
    have ht373 : Blk _ t (TS.vals ({ T with back := ll271, cursor := c57, saved := c93, away := c129, title := x324 } : TS) g q (.slice (o275.map at0) n276 cap277) (.slice pa pn pc)) tTerm := Blk.to hB359 (by kernel_rfl)
    refine x_killed ?_
    refine yd [15, 16] [] .z ?_
    refine yK 17 (yS ht373 fun w374 hB375 hc376 => ?_)
    have hu378 := Up.step hu362 hc376 (fun i hi (h : i = t) => by omega)
    have hm379 : Ch (fun _ => True) w258 w374 := Ch.trans hm363 hc376 (fun _ _ _ => trivial)
    have hO382 := hO366.ch hc376 (fun b hb hl (h : b = t) => by omega)
    have hB383 := hB367.ch hc376 (fun h => htg h.symm)
    have hO384 := hO368.ch hc376 (fun b hb hl (h : b = t) => by omega)
    have hB385 := hB369.ch hc376 (fun h => htq h.symm)
    have hB386 := hB370.ch hc376 (fun h => htsr h.symm)
    have hO387 := hO371.ch hc376 (fun b hb hl (h : b = t) => by omega)
    have hA388 := hA372.ch hc376 (fun h => htrv h.symm) (fun (h : D = t) => by omega)
    have ht389 : Blk _ t (TS.vals ({ T with back := ll271, cursor := c57, saved := c93, away := c129, title := x324, reply := x341 } : TS) g q (.slice (o275.map at0) n276 cap277) (.slice pa pn pc)) tTerm := Blk.to hB375 (by kernel_rfl)
    refine x_killed ?_
    refine yDe (nS ?_)
    refine ysr ?_
    refine yp 2 [] .z ?_
    have hmk4 : w258.heap.size ≤ w374.heap.size := Ch.size hm379
    obtain ⟨p390, s391, f392, hP393⟩ : ∃ p s' f', parsR s342 f273 = (p, s', f') := ⟨_, _, _, rfl⟩
    have hun3 := hO387.under
    refine yo (yC (parserR_any ⟨hB386, hA388, hsrv, hsD⟩ (lt_ch (Up.ch hu378) hT (fun _ h => h.elim)).ut (by omega) (by omega) hP393) ?_)
    rintro _ w401 ⟨o394, n395, cap396, rfl, hO397, hlo398, hS399, hc400⟩
    refine ⟨_, rfl, ?_⟩
    have hu402 := Up.step hu378 hc400 (fun i hi h => h.elim (fun (h : i = sr) => by omega) (fun (h : i = rv) => by omega))
    have hm403 : Ch (fun _ => True) w374 w401 := Ch.trans (Ch.refl (fun _ => True) w374) hc400 (fun _ _ _ => trivial)
    have hO406 := hO382.ch hc400 (fun b hb hl h => h.elim (fun (h : b = sr) => by omega) (fun (h : b = rv) => by omega))
    have hB407 := hB383.ch hc400 (fun h => h.elim hgsr hgrv)
    have hO408 := hO384.ch hc400 (fun b hb hl h => h.elim (fun (h : b = sr) => by omega) (fun (h : b = rv) => by omega))
    have hB409 := hB385.ch hc400 (fun h => h.elim hqsr hqrv)
    have hO410 := hO387.ch hc400 (fun b hb hl h => h.elim (fun (h : b = sr) => by omega) (fun (h : b = rv) => by omega))
    have ht411 := ht389.ch hc400 (fun h => h.elim htsr htrv)
    refine yp 5 [] .z ?_
    refine yo (yS ht411 fun w412 hB413 hc414 => ?_)
    have hu416 := Up.step hu402 hc414 (fun i hi (h : i = t) => by omega)
    have hm417 : Ch (fun _ => True) w374 w412 := Ch.trans hm403 hc414 (fun _ _ _ => trivial)
    have hO420 := hO406.ch hc414 (fun b hb hl (h : b = t) => by omega)
    have hB421 := hB407.ch hc414 (fun h => htg h.symm)
    have hO422 := hO408.ch hc414 (fun b hb hl (h : b = t) => by omega)
    have hB423 := hB409.ch hc414 (fun h => htq h.symm)
    have hO424 := hO410.ch hc414 (fun b hb hl (h : b = t) => by omega)
    have hB425 := hS399.blk.ch hc414 (fun h => htsr h.symm)
    have hA426 := hS399.rd.ch hc414 (fun h => htrv h.symm) (fun (h : D = t) => by omega)
    have hO427 := hO397.ch hc414 (fun b e (h : b = t) => by have := hlo398 b e; omega)
    have ht428 : Blk _ t (TS.vals ({ T with back := ll271, cursor := c57, saved := c93, away := c129, title := x324, reply := x341, parser := { T.parser with state := p390.state, marks := p390.marks, text := p390.text, within := p390.within, utf := ⟨p390.utf.b0, p390.utf.b1, p390.utf.b2, p390.utf.n⟩, params := p390.params } } : TS) g q (.slice (o275.map at0) n276 cap277) (.slice (o394.map at0) n395 cap396)) tTerm := Blk.to hB413 (by kernel_rfl)
    refine ye ?_
    refine ys ?_
    refine ysr ?_
    refine yp 6 [] (.l (hB425.c 1) .z) ?_
    refine yw [117] (rN (rY f392)) (fun hC429 => ?_) fun hC429 => ?_
    · have hf430 := hC429
      refine yp 13 [] .z ?_
      refine ye ?_
      refine yct ?_
      refine ysr ?_
      refine yp 2 [] .z ?_
      refine ye ?_
      refine x_ret (rS (yR2 [.pointer none, iX 1] .z ?_))
      rw [decT_tail hH, tailR_eq hC60 hC96 hC132 hL195 hL240 hL274 hN326 hN343 hP393] at hX
      rw [if_neg (fun h => absurd (hf430.symm.trans h.1) (by decide))] at hX
      exact ⟨_, _, rfl, Up.ch hu416, .inl ⟨hX.symm, rfl, rfl⟩⟩
    · have hf431 := hC429
      refine yp 10 [] (.l (hB425.c 0) .z) ?_
      refine yo (yQ (done_any hA426) fun w433 hc432 => ?_)
      have hu434 := Up.step hu416 hc432 iZ
      have hm435 : Ch (fun _ => True) w374 w433 := Ch.trans hm417 hc432 (fun _ _ _ => trivial)
      have hO438 := hO420.ch hc432 (fun _ _ _ h => h)
      have hB439 := hB421.ch hc432 id
      have hO440 := hO422.ch hc432 (fun _ _ _ h => h)
      have hB441 := hB423.ch hc432 id
      have hO442 := hO424.ch hc432 (fun _ _ _ h => h)
      have hO445 := hO427.ch hc432 iZ
      have ht446 := ht428.ch hc432 id
      refine yp 13 [] .z ?_
      refine ye ?_
      refine yc (rN (rY (decide (s391 = some [])))) (fun hC447 => ?_) fun hC447 => ?_
      · have hf448 := hC447
        refine ysr ?_
        refine yp 2 [] .z ?_
        refine ye ?_
        refine x_ret (rS (yR2 [.pointer none, iX 1] .z ?_))
        rw [decT_tail hH, tailR_eq hC60 hC96 hC132 hL195 hL240 hL274 hN326 hN343 hP393] at hX
        rw [if_neg (fun h => of_decide_eq_false hf448 h.2)] at hX
        exact ⟨_, _, rfl, Up.ch hu434, .inl ⟨hX.symm, rfl, rfl⟩⟩
      · have hf449 := hC447
        refine yk ?_
        refine ysr ?_
        refine yp 3 [] .z ?_
        refine ye ?_
        refine x_ret (yR2 [pX t, iX 0] .z ?_)
        rw [decT_tail hH, tailR_eq hC60 hC96 hC132 hL195 hL240 hL274 hN326 hN343 hP393] at hX
        have hmk5 : w374.heap.size ≤ w433.heap.size := Ch.size hm435
        rw [if_pos ⟨hf431, of_decide_eq_true hf449⟩] at hX
        obtain rfl := hX.symm
        have hD0 := decT_tail hH
        rw [tailR_eq hC60 hC96 hC132 hL195 hL240 hL274 hN326 hN343 hP393, if_pos ⟨hf431, of_decide_eq_true hf449⟩] at hD0
        obtain ⟨_, _, _, hDk⟩ := decT_some hrsB hD0
        have hoe := headR_oth hH
        have hqb := hB441
        rw [hoe] at hqb
        exact ⟨_, _, rfl, Up.ch hu434, .inr ⟨t, _, rfl, rfl, rfl, term_of hDk (Blk.to ht446 (by kernel_rfl)) hB439 hqb hO438 hO440 hO442 hO445 hlo398 hrl201.symm hrl246.symm hrl280.symm hun1 hun2 hun3 h7 (by omega) (by omega) (by omega) htg htq hgq (by omega)⟩⟩
end Go.Proofs.YtclnfbmmaofpjaaDoor.X
namespace Go.Proofs.YtclnfbmmaofpjaaDoor.X
open Go Go.RowKit Go.Proofs.YtclnfbmmaofpjaaDoor
theorem putsI_nil : putsI [] = [] := rfl
theorem putsI_cons (x : Int) (l : List Int) : putsI (x :: l) = putN x.toNat ++ putsI l := rfl
theorem bool_cell {w : World} {b o : Nat} {l : List Bool} (h : Rd w (some ⟨b, o, none⟩) (l.map Value.bool)) {k : Nat} (hk : k < l.length) : w.cell? ⟨b, o + ((k : Nat) : Int).toNat * 1, none⟩ = some (.bool (lb l k)) := by
 rw [Int.toNat_natCast, Nat.mul_one]
 refine rd_at h k _ ?_
 rw [List.getElem?_map, List.getElem?_eq_getElem hk]
 simp [lb, List.getD, List.getElem?_eq_getElem hk]
theorem flagsL_lt (l : List Bool) (h : l.length ≤ 60) : flagsL l < 2 ^ 60 := Nat.lt_of_lt_of_le (flagsF_lt _ _) (Nat.pow_le_pow_right (by decide) h)
structure CurB (c : Cur) : Prop where
  x : 0 ≤ c.x ∧ c.x ≤ 1000
  y : 0 ≤ c.y ∧ c.y ≤ 1000
  s : styleB c.sty = true
structure ParB (p : PS) : Prop where
  st : 0 ≤ p.state ∧ p.state ≤ 1000
  wi : 0 ≤ p.within ∧ p.within ≤ 1000
  u : 0 ≤ p.utf.n ∧ p.utf.n ≤ 3
  ub : byts p.utf.pend
  m : p.marks.size ≤ 1000
  n : p.params.length ≤ 1000
  b : ∀ x ∈ p.params, 0 ≤ x ∧ x ≤ 9999
  t : p.text.size ≤ 1000
theorem pend_len {u : US} (h : 0 ≤ u.n ∧ u.n ≤ 3) : u.pend.length = u.n.toNat := by
 unfold US.pend
 rw [List.length_take]
 simp only [List.length_cons, List.length_nil]
 omega
theorem pend_rd {w : World} {b : Nat} {c : Value} {r : List Value} {T : TypeId} {u : US} (h : Blk w b (c :: uX u.b0 :: uX u.b1 :: uX u.b2 :: r) T) : Rd w (some ⟨b, 1, none⟩) (u.pend.map (Value.int .u8)) := by
 refine Rd.blk h fun j hj => ?_
 unfold US.pend at hj ⊢
 rw [List.length_map, List.length_take] at hj
 rw [List.map_take, List.getElem?_take, if_pos (by omega), Nat.add_comm]
 simp only [List.length_cons, List.length_nil] at hj
 obtain rfl | rfl | rfl : j = 0 ∨ j = 1 ∨ j = 2 := by omega
 ·rfl
 ·rfl
 rfl
set_option maxHeartbeats 4000000 in
theorem flags_any (fb fo kn : Nat) (l : List Bool) (w : World) (hr : Rd w (some ⟨fb, fo, none⟩) (l.map Value.bool)) (hl : l.length = kn) (hn : kn ≤ 60) : Calls Tryd.prog 29 [.slice (some ⟨fb, fo, none⟩) kn kn].toArray w fun e w' => e = .returned (.int .u64 ((flagsL l : Nat) : Int)) ∧ Ch (fun _ => False) w w' := by
 refine yA Tryd.func29 rfl <| ysr <| yp 1 [] .z <| ye <| ysr <| yp 1 [] .z <| ye <| ys <| ysr <| yp 3 [] .z <| ye <| x_block <| ykeep [3, 6, 7, 8] (f' := [(3, .int .u64 0), (6, .slice (some ⟨fb, fo, none⟩) kn kn), (7, iX ((kn : Nat) : Int)), (8, iX 0)]) <| x_loop (σ := Nat × Int) (fun ⟨k, x⟩ => [(3, .int .u64 x), (6, .slice (some ⟨fb, fo, none⟩) kn kn), (7, iX ((kn : Nat) : Int)), (8, iX ((k : Nat) : Int))]) (fun ⟨k, x⟩ u => k ≤ kn ∧ x = ((flagsF (lb l) k : Nat) : Int) ∧ Ch (fun _ => False) w u) (fun ⟨k, x⟩ => kn - k) (0, 0) rfl ?_ ?_
 ·exact ⟨Nat.zero_le _, rfl, Ch.refl _ _⟩
 intro p w10 hI11 K12 hL13
 obtain ⟨k, x⟩ := p
 obtain ⟨hk, hx, hc14⟩ := hI11
 have hlt := flagsF_lt (lb l) k
 have hu15 := Up.step (Up.refl w.heap.size w) hc14 iZ
 have hr16 := Ch.rd hc14 hr id
 refine ysr <| yp 1 [] .z <| ye <| ys <| yc (rL ((k : Nat) : Int) ((kn : Nat) : Int)) (fun hC17 => ?_) fun hC17 => ?_
 ·have hkk := hC17
  refine yk <| ys <| x_block <| ysr <| yp 5 [] (.i ((k : Nat) : Int) (kn) (.l (o := (fo + (((k : Nat) : Int)).toNat * 1)) (bool_cell hr16 (k := k) (by omega)) .z)) <| ye <| ysr <| yp 1 [] .z <| ye <| yc (rY (lb l k)) (fun hC18 => ?_) fun hC18 => ?_
  ·have hbb := hC18
   refine x_region <| yp 5 [] (.p (q := 0 ≤ (((k : Nat) : Int) : Int)) (by omega) .z) <| yE (nB (nS ?_))
   refine x_region <| yp 2 [] (.q6 (((k : Nat) : Int) + 1) .z) <| yE (fun a ha => hL13 (k + 1, orF x k) _ ⟨by omega, by rw [hx, orF_eq (by omega) hlt, flagsF, hbb, if_pos rfl], hc14⟩ (by show kn - (k + 1) < kn - k; omega) a (ha.kp [3, 6, 7, 8]))
  have hbb := hC18
  refine x_skip (nB (nS ?_))
  refine x_region <| yp 2 [] (.q6 (((k : Nat) : Int) + 1) .z) <| yE (fun a ha => hL13 (k + 1, x) _ ⟨by omega, by rw [hx, flagsF, hbb]; simp, hc14⟩ (by show kn - (k + 1) < kn - k; omega) a (ha.kp [3, 6, 7, 8]))
 have hkk := hC17
 refine x_exit (eS (then_exit (block_exit (nS ?_))))
 refine ysr <| yp 2 [] .z <| ye <| x_ret (yR1 (.int .u64 x) ?_)
 exact ⟨by rw [hx, show k = kn by omega, ← hl]; rfl, Up.ch hu15⟩
set_option maxHeartbeats 4000000 in
theorem putCur_any {o : Option Nat} {n cap : Nat} {xs : List Int} {w : World} (hO : Own w tU8 1 o n cap (u8s xs)) (c : Cur) (hc : CurB c) (hz : n + 40 ≤ 1000000000) : Calls Tryd.prog 30 [.slice (o.map at0) n cap, .agg #[iX c.x, iX c.y, .bool c.late, .bool c.sty.bold, .bool c.sty.under, .bool c.sty.turned, iX c.sty.fore, iX c.sty.back]].toArray w fun e w' => ∃ o' n' cap', e = .returned (.slice (o'.map at0) n' cap') ∧ Own w' tU8 1 o' n' cap' (u8s (xs ++ curI c)) ∧ n' ≤ n + 40 ∧ App w w' o o' := by
 have hlt := bitsS_lt hc.s
 have hfl := flagsL_lt [c.late] (by simp)
 have hcx := hc.x
 have hcy := hc.y
 refine yA Tryd.func30 rfl <| ysr <| yo (yN [iX c.x, iX c.y, .bool c.late, .bool c.sty.bold, .bool c.sty.under, .bool c.sty.turned, iX c.sty.fore, iX c.sty.back] 32 fun w10 b11 hb12 hz13 hB14 hc15 => ?_)
 have hbn16 : ∀ b', o = some b' → ¬ b' = b11 := fun b' e => by have := hO.ltOf e; omega
 have hO17 := hO.ch hc15 iZ
 have hA18 := (App.refl w o).step hc15 iZ
 refine yp 2 [] .z <| ye <| ys <| x_drawnB (fun b => o = some b) [15] (by kernel_rfl) (fun w19 hH20 hc21 => ?_)
 have hO22 := hO17.ch hc21 iZ
 have hA23 := hA18.step hc21 iZ
 have hB24 := hB14.ch hc21 id
 refine ydC [0, 1, 2, 3, 4, 5, 6, 7, 8, 13, 14] [3, 6] (fun u hu => (.l (cell_ch hu (hB24.c 0) (fun h => hbn16 _ h rfl)) (.p (q := InR .u64 c.x) (in_u64 (by omega) (by omega)) (.l (cell_ch hu (hB24.c 1) (fun h => hbn16 _ h rfl)) (.p (q := InR .u64 c.y) (in_u64 (by omega) (by omega)) (.l (cell_ch hu (hB24.c 2) (fun h => hbn16 _ h rfl)) (.a (cellsC_ch hu (hB24.cs 3 5) (fun h => hbn16 _ h rfl)) .z))))))) <| yH 9 (yB [.bool c.late] 4 1 fun w25 b26 hb27 hz28 hB29 hc30 => ?_)
 have hbn31 : ∀ b', o = some b' → ¬ b' = b26 := fun b' e => by have := hO22.ltOf e; omega
 have hO32 := hO22.ch hc30 iZ
 have hA33 := hA23.step hc30 iZ
 have hB34 := hB24.ch hc30 id
 refine x_heldB hc30 eZ <| yH 10 (yQ (flags_any b26 0 1 [c.late] _ (Rd.all (cs := [c.late].map Value.bool) hB29) rfl (by decide)) fun w36 hc35 => ?_)
 have hO37 := hO32.ch hc35 iZ
 have hA38 := hA33.step hc35 iZ
 have hB39 := hB34.ch hc35 id
 have hB40 := hB29.ch hc35 id
 refine x_heldB hc35 eZ <| yH 11 (yB [.int .u64 c.x, .int .u64 c.y, .int .u64 ((flagsL [c.late] : Nat) : Int)] 75 3 fun w41 b42 hb43 hz44 hB45 hc46 => ?_)
 have hbn47 : ∀ b', o = some b' → ¬ b' = b42 := fun b' e => by have := hO37.ltOf e; omega
 have hO48 := hO37.ch hc46 iZ
 have hA49 := hA38.step hc46 iZ
 have hB50 := hB39.ch hc46 id
 have hB51 := hB40.ch hc46 id
 refine x_heldB hc46 eZ ?_
 refine yH 12 (yC (put_any o n cap xs b42 3 [c.x, c.y, ((flagsL [c.late] : Nat) : Int)] _ hO48 (Rd.all hB45) rfl (by intro x hx; simp only [List.mem_cons, List.not_mem_nil, or_false] at hx; rcases hx with rfl | rfl | rfl <;> (constructor <;> omega)) hB45.lt hbn47 (by omega)) ?_)
 rintro _ w58 ⟨og52, ng53, cp54, rfl, hO55, hn56, hA57⟩
 refine ⟨_, rfl, ?_⟩
 have hbn59 := hA57.apart hB50.lt hbn16
 have hbn60 := hA57.apart hB51.lt hbn31
 have hbn61 := hA57.apart hB45.lt hbn47
 have hA62 := hA49.trans hA57
 have hB63 := hB50.ch hA57.ch (fun h => hbn16 _ h rfl)
 have hB64 := hB51.ch hA57.ch (fun h => hbn31 _ h rfl)
 have hB65 := hB45.ch hA57.ch (fun h => hbn47 _ h rfl)
 refine x_heldB hA57.ch iZ <| yK 15 (yC (putStyle_any hO55 c.sty hc.s (by omega)) ?_)
 rintro _ w72 ⟨og66, ng67, cp68, rfl, hO69, hn70, hA71⟩
 refine ⟨_, rfl, ?_⟩
 have hbn73 := hA71.apart hB63.lt hbn59
 have hbn74 := hA71.apart hB64.lt hbn60
 have hbn75 := hA71.apart hB65.lt hbn61
 have hA76 := hA62.trans hA71
 refine x_killed <| yd [16] [] .z <| yDe (nS ?_)
 refine x_ret (yR1 (.slice (og66.map at0) ng67 cp68) ?_)
 exact ⟨_, _, _, rfl, by have h := hO69; unfold curI; simp only [putsI_cons, putsI_nil, List.append_assoc, List.append_nil, Int.toNat_natCast] at h ⊢; exact h, by omega, hA76⟩
set_option maxHeartbeats 4000000 in
theorem putPar_any {o : Option Nat} {n cap : Nat} {xs : List Int} {w : World} (hO : Own w tU8 1 o n cap (u8s xs)) (p : PS) (hp : ParB p) (pa : Option Addr) (pn pc : Nat) (hq : Rd w pa (p.params.map (Value.int .i64))) (hql : p.params.length = pn) (hqz : pn = 0 ∨ ∃ b f, pa = some ⟨b, f, none⟩) (hpne : ∀ x, o = some x → ∀ b f, pa = some ⟨b, f, none⟩ → ¬ x = b) (hz : n + 20000 ≤ 1000000000) : Calls Tryd.prog 32 [.slice (o.map at0) n cap, .agg (p.vals (.slice pa pn pc)).toArray].toArray w fun e w' => ∃ o' n' cap', e = .returned (.slice (o'.map at0) n' cap') ∧ Own w' tU8 1 o' n' cap' (u8s (xs ++ parsI p)) ∧ n' ≤ n + 20000 ∧ App w w' o o' := by
 have hps := hp.st
 have hpw := hp.wi
 have hpu := hp.u
 have hpm := hp.m
 have hpn := hp.n
 have hpt := hp.t
 have hpl := pend_len hp.u
 have hpz := bytesOf_size p.utf.pend
 refine yA Tryd.func32 rfl <| ysr <| yo (yN [iX p.state, uX p.utf.b0, uX p.utf.b1, uX p.utf.b2, iX p.utf.n, .string p.marks, .slice pa pn pc, .string p.text, iX p.within] 41 fun wb bx hbxe hbxz hbx0 hcb => ?_)
 have hbn13 : ∀ b', o = some b' → ¬ b' = bx := fun b' e => by have := hO.ltOf e; omega
 have hO14 := hO.ch hcb iZ
 have hA15 := (App.refl w o).step hcb iZ
 refine yp 2 [] .z <| ye <| ys <| x_drawnB (fun b => o = some b) [16] (by kernel_rfl) (fun w16 hH17 hc18 => ?_)
 have hO19 := hO14.ch hc18 iZ
 have hA20 := hA15.step hc18 iZ
 have hB21 := hbx0.ch hc18 id
 refine ydC [0, 1, 2, 3, 4, 5, 6, 9, 10, 11, 12, 13, 14] [3, 6] (fun u hu => (.l (cell_ch hu (hB21.c 0) (fun h => hbn13 _ h rfl)) (.p (q := InR .u64 p.state) (in_u64 (by omega) (by omega)) (.l (cell_ch hu (hB21.c 8) (fun h => hbn13 _ h rfl)) (.p (q := InR .u64 p.within) (in_u64 (by omega) (by omega)) (.l (cell_ch hu (hB21.c 4) (fun h => hbn13 _ h rfl)) (.j p.utf.n (3) .z))))))) <| x_dtwo 7 15 (by kernel_rfl) (by decide) ?_ ?_
 ·refine x_seff 7 _ (by kernel_rfl) rfl (yB [.int .u64 p.state, .int .u64 p.within] 75 2 fun w22 b23 hb24 hz25 hB26 hc27 => ?_)
  have hbn28 : ∀ b', o = some b' → ¬ b' = b23 := fun b' e => by have := hO19.ltOf e; omega
  have hO29 := hO19.ch hc27 iZ
  have hA30 := hA20.step hc27 iZ
  have hB31 := hB21.ch hc27 id
  refine x_heldB hc27 eZ <| x_dtwo 8 15 (by kernel_rfl) (by decide) ?_ ?_
  ·refine x_seff 8 _ (by kernel_rfl) rfl (yC (put_any o n cap xs b23 2 [p.state, p.within] _ hO29 (Rd.all hB26) rfl (by intro x hx; simp only [List.mem_cons, List.not_mem_nil, or_false] at hx; rcases hx with rfl | rfl <;> (constructor <;> omega)) hB26.lt hbn28 (by omega)) ?_)
   rintro _ w38 ⟨og32, ng33, cp34, rfl, hO35, hn36, hA37⟩
   refine ⟨_, rfl, ?_⟩
   have hbn39 := hA37.apart hB31.lt hbn13
   have hbn40 := hA37.apart hB26.lt hbn28
   have hA41 := hA30.trans hA37
   have hB42 := hB31.ch hA37.ch (fun h => hbn13 _ h rfl)
   have hB43 := hB26.ch hA37.ch (fun h => hbn28 _ h rfl)
   refine x_heldB hA37.ch iZ <| yH 15 (e_bytes (some ⟨bx, 1, none⟩) (p.utf.n : Int).toNat 3 p.utf.pend (some 22) (by kernel_rfl) (pend_rd hB42) (pend_len hp.u) ?_)
   refine x_heldB (Ch.refl (fun _ => False) w38) eZ <| yK 16 (yC (putText_any hO35 (bytesOf p.utf.pend) (by omega)) ?_)
   rintro _ w50 ⟨og44, ng45, cp46, rfl, hO47, hn48, hA49⟩
   refine ⟨_, rfl, ?_⟩
   have hbn51 := hA49.apart hB42.lt hbn39
   have hbn52 := hA49.apart hB43.lt hbn40
   have hA53 := hA41.trans hA49
   have hB54 := hB42.ch hA49.ch (fun h => hbn39 _ h rfl)
   have hB55 := hB43.ch hA49.ch (fun h => hbn40 _ h rfl)
   refine x_killed <| yd [17] [] .z <| yDe (nS ?_)
   refine ys <| x_drawnB (fun b => og44 = some b) [9] (by kernel_rfl) (fun w56 hH57 hc58 => ?_)
   have hB59 := hB54.ch hc58 id
   have hB60 := hB55.ch hc58 id
   have hO61 := hO47.ch hc58 iZ
   have hA62 := hA53.step hc58 iZ
   refine ydC [0, 1, 2, 4, 5, 6, 7] [7] (fun u hu => (.l (cell_ch hu (hB59.c 5) (fun h => hbn51 _ h rfl)) (.l (cell_ch hu (hB59.c 6) (fun h => hbn51 _ h rfl)) (.p (q := InR .u64 ((pn : Nat) : Int)) (in_u64 (by omega) (by omega)) .z)))) <| x_dtwo 3 8 (by kernel_rfl) (by decide) ?_ ?_
   ·refine x_seff 3 _ (by kernel_rfl) rfl (yC (putText_any hO61 p.marks (by omega)) ?_)
    rintro _ w69 ⟨og63, ng64, cp65, rfl, hO66, hn67, hA68⟩
    refine ⟨_, rfl, ?_⟩
    have hbn70 := hA68.apart hB59.lt hbn51
    have hbn71 := hA68.apart hB60.lt hbn52
    have hA72 := hA62.trans hA68
    have hB73 := hB59.ch hA68.ch (fun h => hbn51 _ h rfl)
    have hB74 := hB60.ch hA68.ch (fun h => hbn52 _ h rfl)
    refine x_heldB hA68.ch iZ <| yH 8 (yB [.int .u64 ((pn : Nat) : Int)] 75 1 fun w75 b76 hb77 hz78 hB79 hc80 => ?_)
    have hbn81 : ∀ b', og63 = some b' → ¬ b' = b76 := fun b' e => by have := hO66.ltOf e; omega
    have hB82 := hB73.ch hc80 id
    have hB83 := hB74.ch hc80 id
    have hO84 := hO66.ch hc80 iZ
    have hA85 := hA72.step hc80 iZ
    refine x_heldB hc80 eZ ?_
    refine yK 9 (yC (put_any og63 ng64 cp65 (((xs ++ putsI [p.state, p.within]) ++ strI (bytesOf p.utf.pend)) ++ strI p.marks) b76 1 [((pn : Nat) : Int)] _ hO84 (Rd.all hB79) rfl (by intro x hx; simp only [List.mem_cons, List.not_mem_nil, or_false] at hx; subst hx; constructor <;> omega) hB79.lt hbn81 (by omega)) ?_)
    rintro _ w92 ⟨og86, ng87, cp88, rfl, hO89, hn90, hA91⟩
    refine ⟨_, rfl, ?_⟩
    have hbn93 := hA91.apart hB82.lt hbn70
    have hbn94 := hA91.apart hB83.lt hbn71
    have hbn95 := hA91.apart hB79.lt hbn81
    have hA96 := hA85.trans hA91
    have hB97 := hB82.ch hA91.ch (fun h => hbn70 _ h rfl)
    refine x_killed <| yd [10] [] .z <| yDe (nS ?_)
    refine ys <| ysr <| yp 4 [] (.l (hB97.c 6) .z) <| ye <| x_block <| ykeep [0, 3, 35, 36, 37] (f' := [(0, .slice (og86.map at0) ng87 cp88), (3, pX bx), (35, .slice pa pn pc), (36, iX ((pn : Nat) : Int)), (37, iX 0)]) <| x_loop (σ := Nat × Option Nat × Nat × Nat) (fun ⟨k, o1, n1, c1⟩ => [(0, .slice (o1.map at0) n1 c1), (3, pX bx), (35, .slice pa pn pc), (36, iX ((pn : Nat) : Int)), (37, iX ((k : Nat) : Int))]) (fun ⟨k, o1, n1, c1⟩ u => k ≤ pn ∧ Own u tU8 1 o1 n1 c1 (u8s (((((xs ++ putsI [p.state, p.within]) ++ strI (bytesOf p.utf.pend)) ++ strI p.marks) ++ putsI [((pn : Nat) : Int)]) ++ (p.params.take k).flatMap (fun x => putN x.toNat))) ∧ App w u o o1 ∧ n1 ≤ ng87 + 10 * k ∧ Blk u bx [iX p.state, uX p.utf.b0, uX p.utf.b1, uX p.utf.b2, iX p.utf.n, .string p.marks, .slice pa pn pc, .string p.text, iX p.within] 41 ∧ ∀ b, o1 = some b → ¬ b = bx) (fun ⟨k, o1, n1, c1⟩ => pn - k) (0, og86, ng87, cp88) rfl ?_ ?_
    ·exact ⟨Nat.zero_le _, by rw [List.take_zero]; exact (by rw [List.flatMap_nil, List.append_nil]; exact hO89), hA96, Nat.le_refl _, hB97, hbn93⟩
    intro q w100 hI101 K102 hL103
    obtain ⟨k, o1, n1, c1⟩ := q
    obtain ⟨hk, hO1, hA1, hn1, hbx1, hbne1⟩ := hI101
    refine ysr <| yp 1 [] .z <| ye <| ys <| yc (rL ((k : Nat) : Int) ((pn : Nat) : Int)) (fun hC104 => ?_) fun hC104 => ?_
    ·have hkp := hC104
     obtain ⟨pb, po, rfl⟩ := hqz.resolve_left (by omega)
     have hpv := hp.b _ (getD_mem (l := p.params) (k := k) (by omega))
     refine yk <| ys <| x_block <| ysr <| yp 3 [] (.i ((k : Nat) : Int) (pn) (.l (o := (po + (((k : Nat) : Int)).toNat * 1)) (ints_cell64 (Ch.rd hA1.ch hq (fun h => hpne _ h _ _ rfl rfl)) (by omega)) .z)) <| ye <| x_region <| yp 3 [2] (.p (q := InR .u64 (p.params.getD k 0)) (in_u64 (by omega) (by omega)) .z) <| yo (yB [.int .u64 (p.params.getD k 0)] 75 1 fun w105 b106 hb107 hz108 hB109 hc110 => ?_)
     have hbn111 : ∀ b', o1 = some b' → ¬ b' = b106 := fun b' e => by have := hO1.ltOf e; omega
     have hO112 := hO1.ch hc110 iZ
     have hA113 := hA1.step hc110 iZ
     have hB114 := hbx1.ch hc110 id
     refine yo (yC (put_any o1 n1 c1 (((((xs ++ putsI [p.state, p.within]) ++ strI (bytesOf p.utf.pend)) ++ strI p.marks) ++ putsI [((pn : Nat) : Int)]) ++ (p.params.take k).flatMap (fun x => putN x.toNat)) b106 1 [(p.params.getD k 0)] _ hO112 (Rd.all hB109) rfl (by intro x hx; simp only [List.mem_cons, List.not_mem_nil, or_false] at hx; subst hx; constructor <;> omega) hB109.lt hbn111 (by omega)) ?_)
     rintro _ w121 ⟨og115, ng116, cp117, rfl, hO118, hn119, hA120⟩
     refine ⟨_, rfl, ?_⟩
     have hbn122 := hA120.apart hB114.lt hbne1
     have hbn123 := hA120.apart hB109.lt hbn111
     have hA124 := hA113.trans hA120
     have hB125 := hB114.ch hA120.ch (fun h => hbne1 _ h rfl)
     refine yp 6 [] .z <| yE (nB (nS ?_))
     refine x_region <| yp 2 [] (.q6 (((k : Nat) : Int) + 1) .z) ?_
     have hOz : Own w121 tU8 1 og115 ng116 cp117 (u8s (((((xs ++ putsI [p.state, p.within]) ++ strI (bytesOf p.utf.pend)) ++ strI p.marks) ++ putsI [((pn : Nat) : Int)]) ++ (p.params.take (k + 1)).flatMap (fun x => putN x.toNat))) := by
      have h := hO118
      rw [take_at (by omega)]
      simp only [putsI_cons, putsI_nil, List.flatMap_append, List.flatMap_cons, List.flatMap_nil, List.append_assoc, List.append_nil] at h ⊢
      exact h
     refine yE (fun a ha => hL103 (k + 1, og115, ng116, cp117) _ ⟨by omega, hOz, hA124, by omega, hB125, hbn122⟩ (by show pn - (k + 1) < pn - k; omega) a (ha.kp [0, 3, 35, 36, 37]))
    have hkp := hC104
    have hkn : k = p.params.length := by omega
    rw [hkn, List.take_length] at hO1
    refine x_exit (eS (then_exit (block_exit (nS ?_))))
    refine ysr <| yp 3 [] (.l (hbx1.c 7) .z) <| yo (yC (putText_any hO1 p.text (by omega)) ?_)
    rintro _ w133 ⟨og127, ng128, cp129, rfl, hO130, hn131, hA132⟩
    refine ⟨_, rfl, ?_⟩
    have hbn134 := hA132.apart hbx1.lt hbne1
    have hA135 := hA1.trans hA132
    refine yp 5 [] .z <| ye <| x_ret (yR1 (.slice (og127.map at0) ng128 cp129) ?_)
    exact ⟨_, _, _, rfl, by have h := hO130; unfold parsI; simp only [putsI_cons, putsI_nil, List.append_assoc, List.append_nil, Int.toNat_natCast] at h ⊢; rw [hql]; exact h, by omega, hA135⟩
   refine x_seff 8 _ (by kernel_rfl) rfl (yB [.int .u64 ((pn : Nat) : Int)] 75 1 fun w137 b138 hb139 hz140 hB141 hc142 => ?_)
   have hbn143 : ∀ b', og44 = some b' → ¬ b' = b138 := fun b' e => by have := hO61.ltOf e; omega
   have hB144 := hB59.ch hc142 id
   have hB145 := hB60.ch hc142 id
   have hO146 := hO61.ch hc142 iZ
   have hA147 := hA62.step hc142 iZ
   refine x_heldB hc142 eZ <| yH 3 (yC (putText_any hO146 p.marks (by omega)) ?_)
   rintro _ w154 ⟨og148, ng149, cp150, rfl, hO151, hn152, hA153⟩
   refine ⟨_, rfl, ?_⟩
   have hbn155 := hA153.apart hB144.lt hbn51
   have hbn156 := hA153.apart hB145.lt hbn52
   have hbn157 := hA153.apart hB141.lt hbn143
   have hA158 := hA147.trans hA153
   have hB159 := hB144.ch hA153.ch (fun h => hbn51 _ h rfl)
   have hB160 := hB145.ch hA153.ch (fun h => hbn52 _ h rfl)
   have hB161 := hB141.ch hA153.ch (fun h => hbn143 _ h rfl)
   refine x_heldB hA153.ch iZ ?_
   refine yK 9 (yC (put_any og148 ng149 cp150 (((xs ++ putsI [p.state, p.within]) ++ strI (bytesOf p.utf.pend)) ++ strI p.marks) b138 1 [((pn : Nat) : Int)] _ hO151 (Rd.all hB161) rfl (by intro x hx; simp only [List.mem_cons, List.not_mem_nil, or_false] at hx; subst hx; constructor <;> omega) hB161.lt hbn157 (by omega)) ?_)
   rintro _ w168 ⟨og162, ng163, cp164, rfl, hO165, hn166, hA167⟩
   refine ⟨_, rfl, ?_⟩
   have hbn169 := hA167.apart hB159.lt hbn155
   have hbn170 := hA167.apart hB160.lt hbn156
   have hbn171 := hA167.apart hB161.lt hbn157
   have hA172 := hA158.trans hA167
   have hB173 := hB159.ch hA167.ch (fun h => hbn155 _ h rfl)
   refine x_killed <| yd [10] [] .z <| yDe (nS ?_)
   refine ys <| ysr <| yp 4 [] (.l (hB173.c 6) .z) <| ye <| x_block <| ykeep [0, 3, 35, 36, 37] (f' := [(0, .slice (og162.map at0) ng163 cp164), (3, pX bx), (35, .slice pa pn pc), (36, iX ((pn : Nat) : Int)), (37, iX 0)]) <| x_loop (σ := Nat × Option Nat × Nat × Nat) (fun ⟨k, o1, n1, c1⟩ => [(0, .slice (o1.map at0) n1 c1), (3, pX bx), (35, .slice pa pn pc), (36, iX ((pn : Nat) : Int)), (37, iX ((k : Nat) : Int))]) (fun ⟨k, o1, n1, c1⟩ u => k ≤ pn ∧ Own u tU8 1 o1 n1 c1 (u8s (((((xs ++ putsI [p.state, p.within]) ++ strI (bytesOf p.utf.pend)) ++ strI p.marks) ++ putsI [((pn : Nat) : Int)]) ++ (p.params.take k).flatMap (fun x => putN x.toNat))) ∧ App w u o o1 ∧ n1 ≤ ng163 + 10 * k ∧ Blk u bx [iX p.state, uX p.utf.b0, uX p.utf.b1, uX p.utf.b2, iX p.utf.n, .string p.marks, .slice pa pn pc, .string p.text, iX p.within] 41 ∧ ∀ b, o1 = some b → ¬ b = bx) (fun ⟨k, o1, n1, c1⟩ => pn - k) (0, og162, ng163, cp164) rfl ?_ ?_
   ·exact ⟨Nat.zero_le _, by rw [List.take_zero]; exact (by rw [List.flatMap_nil, List.append_nil]; exact hO165), hA172, Nat.le_refl _, hB173, hbn169⟩
   intro q w176 hI177 K178 hL179
   obtain ⟨k, o1, n1, c1⟩ := q
   obtain ⟨hk, hO1, hA1, hn1, hbx1, hbne1⟩ := hI177
   refine ysr <| yp 1 [] .z <| ye <| ys <| yc (rL ((k : Nat) : Int) ((pn : Nat) : Int)) (fun hC180 => ?_) fun hC180 => ?_
   ·have hkp := hC180
    obtain ⟨pb, po, rfl⟩ := hqz.resolve_left (by omega)
    have hpv := hp.b _ (getD_mem (l := p.params) (k := k) (by omega))
    refine yk <| ys <| x_block <| ysr <| yp 3 [] (.i ((k : Nat) : Int) (pn) (.l (o := (po + (((k : Nat) : Int)).toNat * 1)) (ints_cell64 (Ch.rd hA1.ch hq (fun h => hpne _ h _ _ rfl rfl)) (by omega)) .z)) <| ye <| x_region <| yp 3 [2] (.p (q := InR .u64 (p.params.getD k 0)) (in_u64 (by omega) (by omega)) .z) <| yo (yB [.int .u64 (p.params.getD k 0)] 75 1 fun w181 b182 hb183 hz184 hB185 hc186 => ?_)
    have hbn187 : ∀ b', o1 = some b' → ¬ b' = b182 := fun b' e => by have := hO1.ltOf e; omega
    have hO188 := hO1.ch hc186 iZ
    have hA189 := hA1.step hc186 iZ
    have hB190 := hbx1.ch hc186 id
    refine yo (yC (put_any o1 n1 c1 (((((xs ++ putsI [p.state, p.within]) ++ strI (bytesOf p.utf.pend)) ++ strI p.marks) ++ putsI [((pn : Nat) : Int)]) ++ (p.params.take k).flatMap (fun x => putN x.toNat)) b182 1 [(p.params.getD k 0)] _ hO188 (Rd.all hB185) rfl (by intro x hx; simp only [List.mem_cons, List.not_mem_nil, or_false] at hx; subst hx; constructor <;> omega) hB185.lt hbn187 (by omega)) ?_)
    rintro _ w197 ⟨og191, ng192, cp193, rfl, hO194, hn195, hA196⟩
    refine ⟨_, rfl, ?_⟩
    have hbn198 := hA196.apart hB190.lt hbne1
    have hbn199 := hA196.apart hB185.lt hbn187
    have hA200 := hA189.trans hA196
    have hB201 := hB190.ch hA196.ch (fun h => hbne1 _ h rfl)
    refine yp 6 [] .z <| yE (nB (nS ?_))
    refine x_region <| yp 2 [] (.q6 (((k : Nat) : Int) + 1) .z) ?_
    have hOz : Own w197 tU8 1 og191 ng192 cp193 (u8s (((((xs ++ putsI [p.state, p.within]) ++ strI (bytesOf p.utf.pend)) ++ strI p.marks) ++ putsI [((pn : Nat) : Int)]) ++ (p.params.take (k + 1)).flatMap (fun x => putN x.toNat))) := by
     have h := hO194
     rw [take_at (by omega)]
     simp only [putsI_cons, putsI_nil, List.flatMap_append, List.flatMap_cons, List.flatMap_nil, List.append_assoc, List.append_nil] at h ⊢
     exact h
    refine yE (fun a ha => hL179 (k + 1, og191, ng192, cp193) _ ⟨by omega, hOz, hA200, by omega, hB201, hbn198⟩ (by show pn - (k + 1) < pn - k; omega) a (ha.kp [0, 3, 35, 36, 37]))
   have hkp := hC180
   have hkn : k = p.params.length := by omega
   rw [hkn, List.take_length] at hO1
   refine x_exit (eS (then_exit (block_exit (nS ?_))))
   refine ysr <| yp 3 [] (.l (hbx1.c 7) .z) <| yo (yC (putText_any hO1 p.text (by omega)) ?_)
   rintro _ w209 ⟨og203, ng204, cp205, rfl, hO206, hn207, hA208⟩
   refine ⟨_, rfl, ?_⟩
   have hbn210 := hA208.apart hbx1.lt hbne1
   have hA211 := hA1.trans hA208
   refine yp 5 [] .z <| ye <| x_ret (yR1 (.slice (og203.map at0) ng204 cp205) ?_)
   exact ⟨_, _, _, rfl, by have h := hO206; unfold parsI; simp only [putsI_cons, putsI_nil, List.append_assoc, List.append_nil, Int.toNat_natCast] at h ⊢; rw [hql]; exact h, by omega, hA211⟩
  refine x_seff 15 _ (by kernel_rfl) rfl (e_bytes (some ⟨bx, 1, none⟩) (p.utf.n : Int).toNat 3 p.utf.pend (some 22) (by kernel_rfl) (pend_rd hB31) (pend_len hp.u) ?_)
  refine x_heldB (Ch.refl (fun _ => False) w22) eZ ?_
  refine yH 8 (yC (put_any o n cap xs b23 2 [p.state, p.within] _ hO29 (Rd.all hB26) rfl (by intro x hx; simp only [List.mem_cons, List.not_mem_nil, or_false] at hx; rcases hx with rfl | rfl <;> (constructor <;> omega)) hB26.lt hbn28 (by omega)) ?_)
  rintro _ w219 ⟨og213, ng214, cp215, rfl, hO216, hn217, hA218⟩
  refine ⟨_, rfl, ?_⟩
  have hbn220 := hA218.apart hB31.lt hbn13
  have hbn221 := hA218.apart hB26.lt hbn28
  have hA222 := hA30.trans hA218
  have hB223 := hB31.ch hA218.ch (fun h => hbn13 _ h rfl)
  have hB224 := hB26.ch hA218.ch (fun h => hbn28 _ h rfl)
  refine x_heldB hA218.ch iZ <| yK 16 (yC (putText_any hO216 (bytesOf p.utf.pend) (by omega)) ?_)
  rintro _ w231 ⟨og225, ng226, cp227, rfl, hO228, hn229, hA230⟩
  refine ⟨_, rfl, ?_⟩
  have hbn232 := hA230.apart hB223.lt hbn220
  have hbn233 := hA230.apart hB224.lt hbn221
  have hA234 := hA222.trans hA230
  have hB235 := hB223.ch hA230.ch (fun h => hbn220 _ h rfl)
  have hB236 := hB224.ch hA230.ch (fun h => hbn221 _ h rfl)
  refine x_killed <| yd [17] [] .z <| yDe (nS ?_)
  refine ys <| x_drawnB (fun b => og225 = some b) [9] (by kernel_rfl) (fun w237 hH238 hc239 => ?_)
  have hB240 := hB235.ch hc239 id
  have hB241 := hB236.ch hc239 id
  have hO242 := hO228.ch hc239 iZ
  have hA243 := hA234.step hc239 iZ
  refine ydC [0, 1, 2, 4, 5, 6, 7] [7] (fun u hu => (.l (cell_ch hu (hB240.c 5) (fun h => hbn232 _ h rfl)) (.l (cell_ch hu (hB240.c 6) (fun h => hbn232 _ h rfl)) (.p (q := InR .u64 ((pn : Nat) : Int)) (in_u64 (by omega) (by omega)) .z)))) <| x_dtwo 3 8 (by kernel_rfl) (by decide) ?_ ?_
  ·refine x_seff 3 _ (by kernel_rfl) rfl (yC (putText_any hO242 p.marks (by omega)) ?_)
   rintro _ w250 ⟨og244, ng245, cp246, rfl, hO247, hn248, hA249⟩
   refine ⟨_, rfl, ?_⟩
   have hbn251 := hA249.apart hB240.lt hbn232
   have hbn252 := hA249.apart hB241.lt hbn233
   have hA253 := hA243.trans hA249
   have hB254 := hB240.ch hA249.ch (fun h => hbn232 _ h rfl)
   have hB255 := hB241.ch hA249.ch (fun h => hbn233 _ h rfl)
   refine x_heldB hA249.ch iZ <| yH 8 (yB [.int .u64 ((pn : Nat) : Int)] 75 1 fun w256 b257 hb258 hz259 hB260 hc261 => ?_)
   have hbn262 : ∀ b', og244 = some b' → ¬ b' = b257 := fun b' e => by have := hO247.ltOf e; omega
   have hB263 := hB254.ch hc261 id
   have hB264 := hB255.ch hc261 id
   have hO265 := hO247.ch hc261 iZ
   have hA266 := hA253.step hc261 iZ
   refine x_heldB hc261 eZ ?_
   refine yK 9 (yC (put_any og244 ng245 cp246 (((xs ++ putsI [p.state, p.within]) ++ strI (bytesOf p.utf.pend)) ++ strI p.marks) b257 1 [((pn : Nat) : Int)] _ hO265 (Rd.all hB260) rfl (by intro x hx; simp only [List.mem_cons, List.not_mem_nil, or_false] at hx; subst hx; constructor <;> omega) hB260.lt hbn262 (by omega)) ?_)
   rintro _ w273 ⟨og267, ng268, cp269, rfl, hO270, hn271, hA272⟩
   refine ⟨_, rfl, ?_⟩
   have hbn274 := hA272.apart hB263.lt hbn251
   have hbn275 := hA272.apart hB264.lt hbn252
   have hbn276 := hA272.apart hB260.lt hbn262
   have hA277 := hA266.trans hA272
   have hB278 := hB263.ch hA272.ch (fun h => hbn251 _ h rfl)
   refine x_killed <| yd [10] [] .z <| yDe (nS ?_)
   refine ys <| ysr <| yp 4 [] (.l (hB278.c 6) .z) <| ye <| x_block <| ykeep [0, 3, 35, 36, 37] (f' := [(0, .slice (og267.map at0) ng268 cp269), (3, pX bx), (35, .slice pa pn pc), (36, iX ((pn : Nat) : Int)), (37, iX 0)]) <| x_loop (σ := Nat × Option Nat × Nat × Nat) (fun ⟨k, o1, n1, c1⟩ => [(0, .slice (o1.map at0) n1 c1), (3, pX bx), (35, .slice pa pn pc), (36, iX ((pn : Nat) : Int)), (37, iX ((k : Nat) : Int))]) (fun ⟨k, o1, n1, c1⟩ u => k ≤ pn ∧ Own u tU8 1 o1 n1 c1 (u8s (((((xs ++ putsI [p.state, p.within]) ++ strI (bytesOf p.utf.pend)) ++ strI p.marks) ++ putsI [((pn : Nat) : Int)]) ++ (p.params.take k).flatMap (fun x => putN x.toNat))) ∧ App w u o o1 ∧ n1 ≤ ng268 + 10 * k ∧ Blk u bx [iX p.state, uX p.utf.b0, uX p.utf.b1, uX p.utf.b2, iX p.utf.n, .string p.marks, .slice pa pn pc, .string p.text, iX p.within] 41 ∧ ∀ b, o1 = some b → ¬ b = bx) (fun ⟨k, o1, n1, c1⟩ => pn - k) (0, og267, ng268, cp269) rfl ?_ ?_
   ·exact ⟨Nat.zero_le _, by rw [List.take_zero]; exact (by rw [List.flatMap_nil, List.append_nil]; exact hO270), hA277, Nat.le_refl _, hB278, hbn274⟩
   intro q w281 hI282 K283 hL284
   obtain ⟨k, o1, n1, c1⟩ := q
   obtain ⟨hk, hO1, hA1, hn1, hbx1, hbne1⟩ := hI282
   refine ysr <| yp 1 [] .z <| ye <| ys <| yc (rL ((k : Nat) : Int) ((pn : Nat) : Int)) (fun hC285 => ?_) fun hC285 => ?_
   ·have hkp := hC285
    obtain ⟨pb, po, rfl⟩ := hqz.resolve_left (by omega)
    have hpv := hp.b _ (getD_mem (l := p.params) (k := k) (by omega))
    refine yk <| ys <| x_block <| ysr <| yp 3 [] (.i ((k : Nat) : Int) (pn) (.l (o := (po + (((k : Nat) : Int)).toNat * 1)) (ints_cell64 (Ch.rd hA1.ch hq (fun h => hpne _ h _ _ rfl rfl)) (by omega)) .z)) <| ye <| x_region <| yp 3 [2] (.p (q := InR .u64 (p.params.getD k 0)) (in_u64 (by omega) (by omega)) .z) <| yo (yB [.int .u64 (p.params.getD k 0)] 75 1 fun w286 b287 hb288 hz289 hB290 hc291 => ?_)
    have hbn292 : ∀ b', o1 = some b' → ¬ b' = b287 := fun b' e => by have := hO1.ltOf e; omega
    have hO293 := hO1.ch hc291 iZ
    have hA294 := hA1.step hc291 iZ
    have hB295 := hbx1.ch hc291 id
    refine yo (yC (put_any o1 n1 c1 (((((xs ++ putsI [p.state, p.within]) ++ strI (bytesOf p.utf.pend)) ++ strI p.marks) ++ putsI [((pn : Nat) : Int)]) ++ (p.params.take k).flatMap (fun x => putN x.toNat)) b287 1 [(p.params.getD k 0)] _ hO293 (Rd.all hB290) rfl (by intro x hx; simp only [List.mem_cons, List.not_mem_nil, or_false] at hx; subst hx; constructor <;> omega) hB290.lt hbn292 (by omega)) ?_)
    rintro _ w302 ⟨og296, ng297, cp298, rfl, hO299, hn300, hA301⟩
    refine ⟨_, rfl, ?_⟩
    have hbn303 := hA301.apart hB295.lt hbne1
    have hbn304 := hA301.apart hB290.lt hbn292
    have hA305 := hA294.trans hA301
    have hB306 := hB295.ch hA301.ch (fun h => hbne1 _ h rfl)
    refine yp 6 [] .z <| yE (nB (nS ?_))
    refine x_region <| yp 2 [] (.q6 (((k : Nat) : Int) + 1) .z) ?_
    have hOz : Own w302 tU8 1 og296 ng297 cp298 (u8s (((((xs ++ putsI [p.state, p.within]) ++ strI (bytesOf p.utf.pend)) ++ strI p.marks) ++ putsI [((pn : Nat) : Int)]) ++ (p.params.take (k + 1)).flatMap (fun x => putN x.toNat))) := by
     have h := hO299
     rw [take_at (by omega)]
     simp only [putsI_cons, putsI_nil, List.flatMap_append, List.flatMap_cons, List.flatMap_nil, List.append_assoc, List.append_nil] at h ⊢
     exact h
    refine yE (fun a ha => hL284 (k + 1, og296, ng297, cp298) _ ⟨by omega, hOz, hA305, by omega, hB306, hbn303⟩ (by show pn - (k + 1) < pn - k; omega) a (ha.kp [0, 3, 35, 36, 37]))
   have hkp := hC285
   have hkn : k = p.params.length := by omega
   rw [hkn, List.take_length] at hO1
   refine x_exit (eS (then_exit (block_exit (nS ?_))))
   refine ysr <| yp 3 [] (.l (hbx1.c 7) .z) <| yo (yC (putText_any hO1 p.text (by omega)) ?_)
   rintro _ w314 ⟨og308, ng309, cp310, rfl, hO311, hn312, hA313⟩
   refine ⟨_, rfl, ?_⟩
   have hbn315 := hA313.apart hbx1.lt hbne1
   have hA316 := hA1.trans hA313
   refine yp 5 [] .z <| ye <| x_ret (yR1 (.slice (og308.map at0) ng309 cp310) ?_)
   exact ⟨_, _, _, rfl, by have h := hO311; unfold parsI; simp only [putsI_cons, putsI_nil, List.append_assoc, List.append_nil, Int.toNat_natCast] at h ⊢; rw [hql]; exact h, by omega, hA316⟩
  refine x_seff 8 _ (by kernel_rfl) rfl (yB [.int .u64 ((pn : Nat) : Int)] 75 1 fun w318 b319 hb320 hz321 hB322 hc323 => ?_)
  have hbn324 : ∀ b', og225 = some b' → ¬ b' = b319 := fun b' e => by have := hO242.ltOf e; omega
  have hB325 := hB240.ch hc323 id
  have hB326 := hB241.ch hc323 id
  have hO327 := hO242.ch hc323 iZ
  have hA328 := hA243.step hc323 iZ
  refine x_heldB hc323 eZ <| yH 3 (yC (putText_any hO327 p.marks (by omega)) ?_)
  rintro _ w335 ⟨og329, ng330, cp331, rfl, hO332, hn333, hA334⟩
  refine ⟨_, rfl, ?_⟩
  have hbn336 := hA334.apart hB325.lt hbn232
  have hbn337 := hA334.apart hB326.lt hbn233
  have hbn338 := hA334.apart hB322.lt hbn324
  have hA339 := hA328.trans hA334
  have hB340 := hB325.ch hA334.ch (fun h => hbn232 _ h rfl)
  have hB341 := hB326.ch hA334.ch (fun h => hbn233 _ h rfl)
  have hB342 := hB322.ch hA334.ch (fun h => hbn324 _ h rfl)
  refine x_heldB hA334.ch iZ ?_
  refine yK 9 (yC (put_any og329 ng330 cp331 (((xs ++ putsI [p.state, p.within]) ++ strI (bytesOf p.utf.pend)) ++ strI p.marks) b319 1 [((pn : Nat) : Int)] _ hO332 (Rd.all hB342) rfl (by intro x hx; simp only [List.mem_cons, List.not_mem_nil, or_false] at hx; subst hx; constructor <;> omega) hB342.lt hbn338 (by omega)) ?_)
  rintro _ w349 ⟨og343, ng344, cp345, rfl, hO346, hn347, hA348⟩
  refine ⟨_, rfl, ?_⟩
  have hbn350 := hA348.apart hB340.lt hbn336
  have hbn351 := hA348.apart hB341.lt hbn337
  have hbn352 := hA348.apart hB342.lt hbn338
  have hA353 := hA339.trans hA348
  have hB354 := hB340.ch hA348.ch (fun h => hbn336 _ h rfl)
  refine x_killed <| yd [10] [] .z <| yDe (nS ?_)
  refine ys <| ysr <| yp 4 [] (.l (hB354.c 6) .z) <| ye <| x_block <| ykeep [0, 3, 35, 36, 37] (f' := [(0, .slice (og343.map at0) ng344 cp345), (3, pX bx), (35, .slice pa pn pc), (36, iX ((pn : Nat) : Int)), (37, iX 0)]) <| x_loop (σ := Nat × Option Nat × Nat × Nat) (fun ⟨k, o1, n1, c1⟩ => [(0, .slice (o1.map at0) n1 c1), (3, pX bx), (35, .slice pa pn pc), (36, iX ((pn : Nat) : Int)), (37, iX ((k : Nat) : Int))]) (fun ⟨k, o1, n1, c1⟩ u => k ≤ pn ∧ Own u tU8 1 o1 n1 c1 (u8s (((((xs ++ putsI [p.state, p.within]) ++ strI (bytesOf p.utf.pend)) ++ strI p.marks) ++ putsI [((pn : Nat) : Int)]) ++ (p.params.take k).flatMap (fun x => putN x.toNat))) ∧ App w u o o1 ∧ n1 ≤ ng344 + 10 * k ∧ Blk u bx [iX p.state, uX p.utf.b0, uX p.utf.b1, uX p.utf.b2, iX p.utf.n, .string p.marks, .slice pa pn pc, .string p.text, iX p.within] 41 ∧ ∀ b, o1 = some b → ¬ b = bx) (fun ⟨k, o1, n1, c1⟩ => pn - k) (0, og343, ng344, cp345) rfl ?_ ?_
  ·exact ⟨Nat.zero_le _, by rw [List.take_zero]; exact (by rw [List.flatMap_nil, List.append_nil]; exact hO346), hA353, Nat.le_refl _, hB354, hbn350⟩
  intro q w357 hI358 K359 hL360
  obtain ⟨k, o1, n1, c1⟩ := q
  obtain ⟨hk, hO1, hA1, hn1, hbx1, hbne1⟩ := hI358
  refine ysr <| yp 1 [] .z <| ye <| ys <| yc (rL ((k : Nat) : Int) ((pn : Nat) : Int)) (fun hC361 => ?_) fun hC361 => ?_
  ·have hkp := hC361
   obtain ⟨pb, po, rfl⟩ := hqz.resolve_left (by omega)
   have hpv := hp.b _ (getD_mem (l := p.params) (k := k) (by omega))
   refine yk <| ys <| x_block <| ysr <| yp 3 [] (.i ((k : Nat) : Int) (pn) (.l (o := (po + (((k : Nat) : Int)).toNat * 1)) (ints_cell64 (Ch.rd hA1.ch hq (fun h => hpne _ h _ _ rfl rfl)) (by omega)) .z)) <| ye <| x_region <| yp 3 [2] (.p (q := InR .u64 (p.params.getD k 0)) (in_u64 (by omega) (by omega)) .z) <| yo (yB [.int .u64 (p.params.getD k 0)] 75 1 fun w362 b363 hb364 hz365 hB366 hc367 => ?_)
   have hbn368 : ∀ b', o1 = some b' → ¬ b' = b363 := fun b' e => by have := hO1.ltOf e; omega
   have hO369 := hO1.ch hc367 iZ
   have hA370 := hA1.step hc367 iZ
   have hB371 := hbx1.ch hc367 id
   refine yo (yC (put_any o1 n1 c1 (((((xs ++ putsI [p.state, p.within]) ++ strI (bytesOf p.utf.pend)) ++ strI p.marks) ++ putsI [((pn : Nat) : Int)]) ++ (p.params.take k).flatMap (fun x => putN x.toNat)) b363 1 [(p.params.getD k 0)] _ hO369 (Rd.all hB366) rfl (by intro x hx; simp only [List.mem_cons, List.not_mem_nil, or_false] at hx; subst hx; constructor <;> omega) hB366.lt hbn368 (by omega)) ?_)
   rintro _ w378 ⟨og372, ng373, cp374, rfl, hO375, hn376, hA377⟩
   refine ⟨_, rfl, ?_⟩
   have hbn379 := hA377.apart hB371.lt hbne1
   have hbn380 := hA377.apart hB366.lt hbn368
   have hA381 := hA370.trans hA377
   have hB382 := hB371.ch hA377.ch (fun h => hbne1 _ h rfl)
   refine yp 6 [] .z <| yE (nB (nS ?_))
   refine x_region <| yp 2 [] (.q6 (((k : Nat) : Int) + 1) .z) ?_
   have hOz : Own w378 tU8 1 og372 ng373 cp374 (u8s (((((xs ++ putsI [p.state, p.within]) ++ strI (bytesOf p.utf.pend)) ++ strI p.marks) ++ putsI [((pn : Nat) : Int)]) ++ (p.params.take (k + 1)).flatMap (fun x => putN x.toNat))) := by
    have h := hO375
    rw [take_at (by omega)]
    simp only [putsI_cons, putsI_nil, List.flatMap_append, List.flatMap_cons, List.flatMap_nil, List.append_assoc, List.append_nil] at h ⊢
    exact h
   refine yE (fun a ha => hL360 (k + 1, og372, ng373, cp374) _ ⟨by omega, hOz, hA381, by omega, hB382, hbn379⟩ (by show pn - (k + 1) < pn - k; omega) a (ha.kp [0, 3, 35, 36, 37]))
  have hkp := hC361
  have hkn : k = p.params.length := by omega
  rw [hkn, List.take_length] at hO1
  refine x_exit (eS (then_exit (block_exit (nS ?_))))
  refine ysr <| yp 3 [] (.l (hbx1.c 7) .z) <| yo (yC (putText_any hO1 p.text (by omega)) ?_)
  rintro _ w390 ⟨og384, ng385, cp386, rfl, hO387, hn388, hA389⟩
  refine ⟨_, rfl, ?_⟩
  have hbn391 := hA389.apart hbx1.lt hbne1
  have hA392 := hA1.trans hA389
  refine yp 5 [] .z <| ye <| x_ret (yR1 (.slice (og384.map at0) ng385 cp386) ?_)
  exact ⟨_, _, _, rfl, by have h := hO387; unfold parsI; simp only [putsI_cons, putsI_nil, List.append_assoc, List.append_nil, Int.toNat_natCast] at h ⊢; rw [hql]; exact h, by omega, hA392⟩
 refine x_seff 15 _ (by kernel_rfl) rfl (e_bytes (some ⟨bx, 1, none⟩) (p.utf.n : Int).toNat 3 p.utf.pend (some 22) (by kernel_rfl) (pend_rd hB21) (pend_len hp.u) ?_)
 refine x_heldB (Ch.refl (fun _ => False) w16) eZ <| yH 7 (yB [.int .u64 p.state, .int .u64 p.within] 75 2 fun w394 b395 hb396 hz397 hB398 hc399 => ?_)
 have hbn400 : ∀ b', o = some b' → ¬ b' = b395 := fun b' e => by have := hO19.ltOf e; omega
 have hO401 := hO19.ch hc399 iZ
 have hA402 := hA20.step hc399 iZ
 have hB403 := hB21.ch hc399 id
 refine x_heldB hc399 eZ ?_
 refine yH 8 (yC (put_any o n cap xs b395 2 [p.state, p.within] _ hO401 (Rd.all hB398) rfl (by intro x hx; simp only [List.mem_cons, List.not_mem_nil, or_false] at hx; rcases hx with rfl | rfl <;> (constructor <;> omega)) hB398.lt hbn400 (by omega)) ?_)
 rintro _ w410 ⟨og404, ng405, cp406, rfl, hO407, hn408, hA409⟩
 refine ⟨_, rfl, ?_⟩
 have hbn411 := hA409.apart hB403.lt hbn13
 have hbn412 := hA409.apart hB398.lt hbn400
 have hA413 := hA402.trans hA409
 have hB414 := hB403.ch hA409.ch (fun h => hbn13 _ h rfl)
 have hB415 := hB398.ch hA409.ch (fun h => hbn400 _ h rfl)
 refine x_heldB hA409.ch iZ <| yK 16 (yC (putText_any hO407 (bytesOf p.utf.pend) (by omega)) ?_)
 rintro _ w422 ⟨og416, ng417, cp418, rfl, hO419, hn420, hA421⟩
 refine ⟨_, rfl, ?_⟩
 have hbn423 := hA421.apart hB414.lt hbn411
 have hbn424 := hA421.apart hB415.lt hbn412
 have hA425 := hA413.trans hA421
 have hB426 := hB414.ch hA421.ch (fun h => hbn411 _ h rfl)
 have hB427 := hB415.ch hA421.ch (fun h => hbn412 _ h rfl)
 refine x_killed <| yd [17] [] .z <| yDe (nS ?_)
 refine ys <| x_drawnB (fun b => og416 = some b) [9] (by kernel_rfl) (fun w428 hH429 hc430 => ?_)
 have hB431 := hB426.ch hc430 id
 have hB432 := hB427.ch hc430 id
 have hO433 := hO419.ch hc430 iZ
 have hA434 := hA425.step hc430 iZ
 refine ydC [0, 1, 2, 4, 5, 6, 7] [7] (fun u hu => (.l (cell_ch hu (hB431.c 5) (fun h => hbn423 _ h rfl)) (.l (cell_ch hu (hB431.c 6) (fun h => hbn423 _ h rfl)) (.p (q := InR .u64 ((pn : Nat) : Int)) (in_u64 (by omega) (by omega)) .z)))) <| x_dtwo 3 8 (by kernel_rfl) (by decide) ?_ ?_
 ·refine x_seff 3 _ (by kernel_rfl) rfl (yC (putText_any hO433 p.marks (by omega)) ?_)
  rintro _ w441 ⟨og435, ng436, cp437, rfl, hO438, hn439, hA440⟩
  refine ⟨_, rfl, ?_⟩
  have hbn442 := hA440.apart hB431.lt hbn423
  have hbn443 := hA440.apart hB432.lt hbn424
  have hA444 := hA434.trans hA440
  have hB445 := hB431.ch hA440.ch (fun h => hbn423 _ h rfl)
  have hB446 := hB432.ch hA440.ch (fun h => hbn424 _ h rfl)
  refine x_heldB hA440.ch iZ <| yH 8 (yB [.int .u64 ((pn : Nat) : Int)] 75 1 fun w447 b448 hb449 hz450 hB451 hc452 => ?_)
  have hbn453 : ∀ b', og435 = some b' → ¬ b' = b448 := fun b' e => by have := hO438.ltOf e; omega
  have hB454 := hB445.ch hc452 id
  have hB455 := hB446.ch hc452 id
  have hO456 := hO438.ch hc452 iZ
  have hA457 := hA444.step hc452 iZ
  refine x_heldB hc452 eZ ?_
  refine yK 9 (yC (put_any og435 ng436 cp437 (((xs ++ putsI [p.state, p.within]) ++ strI (bytesOf p.utf.pend)) ++ strI p.marks) b448 1 [((pn : Nat) : Int)] _ hO456 (Rd.all hB451) rfl (by intro x hx; simp only [List.mem_cons, List.not_mem_nil, or_false] at hx; subst hx; constructor <;> omega) hB451.lt hbn453 (by omega)) ?_)
  rintro _ w464 ⟨og458, ng459, cp460, rfl, hO461, hn462, hA463⟩
  refine ⟨_, rfl, ?_⟩
  have hbn465 := hA463.apart hB454.lt hbn442
  have hbn466 := hA463.apart hB455.lt hbn443
  have hbn467 := hA463.apart hB451.lt hbn453
  have hA468 := hA457.trans hA463
  have hB469 := hB454.ch hA463.ch (fun h => hbn442 _ h rfl)
  refine x_killed <| yd [10] [] .z <| yDe (nS ?_)
  refine ys <| ysr <| yp 4 [] (.l (hB469.c 6) .z) <| ye <| x_block <| ykeep [0, 3, 35, 36, 37] (f' := [(0, .slice (og458.map at0) ng459 cp460), (3, pX bx), (35, .slice pa pn pc), (36, iX ((pn : Nat) : Int)), (37, iX 0)]) <| x_loop (σ := Nat × Option Nat × Nat × Nat) (fun ⟨k, o1, n1, c1⟩ => [(0, .slice (o1.map at0) n1 c1), (3, pX bx), (35, .slice pa pn pc), (36, iX ((pn : Nat) : Int)), (37, iX ((k : Nat) : Int))]) (fun ⟨k, o1, n1, c1⟩ u => k ≤ pn ∧ Own u tU8 1 o1 n1 c1 (u8s (((((xs ++ putsI [p.state, p.within]) ++ strI (bytesOf p.utf.pend)) ++ strI p.marks) ++ putsI [((pn : Nat) : Int)]) ++ (p.params.take k).flatMap (fun x => putN x.toNat))) ∧ App w u o o1 ∧ n1 ≤ ng459 + 10 * k ∧ Blk u bx [iX p.state, uX p.utf.b0, uX p.utf.b1, uX p.utf.b2, iX p.utf.n, .string p.marks, .slice pa pn pc, .string p.text, iX p.within] 41 ∧ ∀ b, o1 = some b → ¬ b = bx) (fun ⟨k, o1, n1, c1⟩ => pn - k) (0, og458, ng459, cp460) rfl ?_ ?_
  ·exact ⟨Nat.zero_le _, by rw [List.take_zero]; exact (by rw [List.flatMap_nil, List.append_nil]; exact hO461), hA468, Nat.le_refl _, hB469, hbn465⟩
  intro q w472 hI473 K474 hL475
  obtain ⟨k, o1, n1, c1⟩ := q
  obtain ⟨hk, hO1, hA1, hn1, hbx1, hbne1⟩ := hI473
  refine ysr <| yp 1 [] .z <| ye <| ys <| yc (rL ((k : Nat) : Int) ((pn : Nat) : Int)) (fun hC476 => ?_) fun hC476 => ?_
  ·have hkp := hC476
   obtain ⟨pb, po, rfl⟩ := hqz.resolve_left (by omega)
   have hpv := hp.b _ (getD_mem (l := p.params) (k := k) (by omega))
   refine yk <| ys <| x_block <| ysr <| yp 3 [] (.i ((k : Nat) : Int) (pn) (.l (o := (po + (((k : Nat) : Int)).toNat * 1)) (ints_cell64 (Ch.rd hA1.ch hq (fun h => hpne _ h _ _ rfl rfl)) (by omega)) .z)) <| ye <| x_region <| yp 3 [2] (.p (q := InR .u64 (p.params.getD k 0)) (in_u64 (by omega) (by omega)) .z) <| yo (yB [.int .u64 (p.params.getD k 0)] 75 1 fun w477 b478 hb479 hz480 hB481 hc482 => ?_)
   have hbn483 : ∀ b', o1 = some b' → ¬ b' = b478 := fun b' e => by have := hO1.ltOf e; omega
   have hO484 := hO1.ch hc482 iZ
   have hA485 := hA1.step hc482 iZ
   have hB486 := hbx1.ch hc482 id
   refine yo (yC (put_any o1 n1 c1 (((((xs ++ putsI [p.state, p.within]) ++ strI (bytesOf p.utf.pend)) ++ strI p.marks) ++ putsI [((pn : Nat) : Int)]) ++ (p.params.take k).flatMap (fun x => putN x.toNat)) b478 1 [(p.params.getD k 0)] _ hO484 (Rd.all hB481) rfl (by intro x hx; simp only [List.mem_cons, List.not_mem_nil, or_false] at hx; subst hx; constructor <;> omega) hB481.lt hbn483 (by omega)) ?_)
   rintro _ w493 ⟨og487, ng488, cp489, rfl, hO490, hn491, hA492⟩
   refine ⟨_, rfl, ?_⟩
   have hbn494 := hA492.apart hB486.lt hbne1
   have hbn495 := hA492.apart hB481.lt hbn483
   have hA496 := hA485.trans hA492
   have hB497 := hB486.ch hA492.ch (fun h => hbne1 _ h rfl)
   refine yp 6 [] .z <| yE (nB (nS ?_))
   refine x_region <| yp 2 [] (.q6 (((k : Nat) : Int) + 1) .z) ?_
   have hOz : Own w493 tU8 1 og487 ng488 cp489 (u8s (((((xs ++ putsI [p.state, p.within]) ++ strI (bytesOf p.utf.pend)) ++ strI p.marks) ++ putsI [((pn : Nat) : Int)]) ++ (p.params.take (k + 1)).flatMap (fun x => putN x.toNat))) := by
    have h := hO490
    rw [take_at (by omega)]
    simp only [putsI_cons, putsI_nil, List.flatMap_append, List.flatMap_cons, List.flatMap_nil, List.append_assoc, List.append_nil] at h ⊢
    exact h
   refine yE (fun a ha => hL475 (k + 1, og487, ng488, cp489) _ ⟨by omega, hOz, hA496, by omega, hB497, hbn494⟩ (by show pn - (k + 1) < pn - k; omega) a (ha.kp [0, 3, 35, 36, 37]))
  have hkp := hC476
  have hkn : k = p.params.length := by omega
  rw [hkn, List.take_length] at hO1
  refine x_exit (eS (then_exit (block_exit (nS ?_))))
  refine ysr <| yp 3 [] (.l (hbx1.c 7) .z) <| yo (yC (putText_any hO1 p.text (by omega)) ?_)
  rintro _ w505 ⟨og499, ng500, cp501, rfl, hO502, hn503, hA504⟩
  refine ⟨_, rfl, ?_⟩
  have hbn506 := hA504.apart hbx1.lt hbne1
  have hA507 := hA1.trans hA504
  refine yp 5 [] .z <| ye <| x_ret (yR1 (.slice (og499.map at0) ng500 cp501) ?_)
  exact ⟨_, _, _, rfl, by have h := hO502; unfold parsI; simp only [putsI_cons, putsI_nil, List.append_assoc, List.append_nil, Int.toNat_natCast] at h ⊢; rw [hql]; exact h, by omega, hA507⟩
 refine x_seff 8 _ (by kernel_rfl) rfl (yB [.int .u64 ((pn : Nat) : Int)] 75 1 fun w509 b510 hb511 hz512 hB513 hc514 => ?_)
 have hbn515 : ∀ b', og416 = some b' → ¬ b' = b510 := fun b' e => by have := hO433.ltOf e; omega
 have hB516 := hB431.ch hc514 id
 have hB517 := hB432.ch hc514 id
 have hO518 := hO433.ch hc514 iZ
 have hA519 := hA434.step hc514 iZ
 refine x_heldB hc514 eZ <| yH 3 (yC (putText_any hO518 p.marks (by omega)) ?_)
 rintro _ w526 ⟨og520, ng521, cp522, rfl, hO523, hn524, hA525⟩
 refine ⟨_, rfl, ?_⟩
 have hbn527 := hA525.apart hB516.lt hbn423
 have hbn528 := hA525.apart hB517.lt hbn424
 have hbn529 := hA525.apart hB513.lt hbn515
 have hA530 := hA519.trans hA525
 have hB531 := hB516.ch hA525.ch (fun h => hbn423 _ h rfl)
 have hB532 := hB517.ch hA525.ch (fun h => hbn424 _ h rfl)
 have hB533 := hB513.ch hA525.ch (fun h => hbn515 _ h rfl)
 refine x_heldB hA525.ch iZ ?_
 refine yK 9 (yC (put_any og520 ng521 cp522 (((xs ++ putsI [p.state, p.within]) ++ strI (bytesOf p.utf.pend)) ++ strI p.marks) b510 1 [((pn : Nat) : Int)] _ hO523 (Rd.all hB533) rfl (by intro x hx; simp only [List.mem_cons, List.not_mem_nil, or_false] at hx; subst hx; constructor <;> omega) hB533.lt hbn529 (by omega)) ?_)
 rintro _ w540 ⟨og534, ng535, cp536, rfl, hO537, hn538, hA539⟩
 refine ⟨_, rfl, ?_⟩
 have hbn541 := hA539.apart hB531.lt hbn527
 have hbn542 := hA539.apart hB532.lt hbn528
 have hbn543 := hA539.apart hB533.lt hbn529
 have hA544 := hA530.trans hA539
 have hB545 := hB531.ch hA539.ch (fun h => hbn527 _ h rfl)
 refine x_killed <| yd [10] [] .z <| yDe (nS ?_)
 refine ys <| ysr <| yp 4 [] (.l (hB545.c 6) .z) <| ye <| x_block <| ykeep [0, 3, 35, 36, 37] (f' := [(0, .slice (og534.map at0) ng535 cp536), (3, pX bx), (35, .slice pa pn pc), (36, iX ((pn : Nat) : Int)), (37, iX 0)]) <| x_loop (σ := Nat × Option Nat × Nat × Nat) (fun ⟨k, o1, n1, c1⟩ => [(0, .slice (o1.map at0) n1 c1), (3, pX bx), (35, .slice pa pn pc), (36, iX ((pn : Nat) : Int)), (37, iX ((k : Nat) : Int))]) (fun ⟨k, o1, n1, c1⟩ u => k ≤ pn ∧ Own u tU8 1 o1 n1 c1 (u8s (((((xs ++ putsI [p.state, p.within]) ++ strI (bytesOf p.utf.pend)) ++ strI p.marks) ++ putsI [((pn : Nat) : Int)]) ++ (p.params.take k).flatMap (fun x => putN x.toNat))) ∧ App w u o o1 ∧ n1 ≤ ng535 + 10 * k ∧ Blk u bx [iX p.state, uX p.utf.b0, uX p.utf.b1, uX p.utf.b2, iX p.utf.n, .string p.marks, .slice pa pn pc, .string p.text, iX p.within] 41 ∧ ∀ b, o1 = some b → ¬ b = bx) (fun ⟨k, o1, n1, c1⟩ => pn - k) (0, og534, ng535, cp536) rfl ?_ ?_
 ·exact ⟨Nat.zero_le _, by rw [List.take_zero]; exact (by rw [List.flatMap_nil, List.append_nil]; exact hO537), hA544, Nat.le_refl _, hB545, hbn541⟩
 intro q w548 hI549 K550 hL551
 obtain ⟨k, o1, n1, c1⟩ := q
 obtain ⟨hk, hO1, hA1, hn1, hbx1, hbne1⟩ := hI549
 refine ysr <| yp 1 [] .z <| ye <| ys <| yc (rL ((k : Nat) : Int) ((pn : Nat) : Int)) (fun hC552 => ?_) fun hC552 => ?_
 ·have hkp := hC552
  obtain ⟨pb, po, rfl⟩ := hqz.resolve_left (by omega)
  have hpv := hp.b _ (getD_mem (l := p.params) (k := k) (by omega))
  refine yk <| ys <| x_block <| ysr <| yp 3 [] (.i ((k : Nat) : Int) (pn) (.l (o := (po + (((k : Nat) : Int)).toNat * 1)) (ints_cell64 (Ch.rd hA1.ch hq (fun h => hpne _ h _ _ rfl rfl)) (by omega)) .z)) <| ye <| x_region <| yp 3 [2] (.p (q := InR .u64 (p.params.getD k 0)) (in_u64 (by omega) (by omega)) .z) <| yo (yB [.int .u64 (p.params.getD k 0)] 75 1 fun w553 b554 hb555 hz556 hB557 hc558 => ?_)
  have hbn559 : ∀ b', o1 = some b' → ¬ b' = b554 := fun b' e => by have := hO1.ltOf e; omega
  have hO560 := hO1.ch hc558 iZ
  have hA561 := hA1.step hc558 iZ
  have hB562 := hbx1.ch hc558 id
  refine yo (yC (put_any o1 n1 c1 (((((xs ++ putsI [p.state, p.within]) ++ strI (bytesOf p.utf.pend)) ++ strI p.marks) ++ putsI [((pn : Nat) : Int)]) ++ (p.params.take k).flatMap (fun x => putN x.toNat)) b554 1 [(p.params.getD k 0)] _ hO560 (Rd.all hB557) rfl (by intro x hx; simp only [List.mem_cons, List.not_mem_nil, or_false] at hx; subst hx; constructor <;> omega) hB557.lt hbn559 (by omega)) ?_)
  rintro _ w569 ⟨og563, ng564, cp565, rfl, hO566, hn567, hA568⟩
  refine ⟨_, rfl, ?_⟩
  have hbn570 := hA568.apart hB562.lt hbne1
  have hbn571 := hA568.apart hB557.lt hbn559
  have hA572 := hA561.trans hA568
  have hB573 := hB562.ch hA568.ch (fun h => hbne1 _ h rfl)
  refine yp 6 [] .z <| yE (nB (nS ?_))
  refine x_region <| yp 2 [] (.q6 (((k : Nat) : Int) + 1) .z) ?_
  have hOz : Own w569 tU8 1 og563 ng564 cp565 (u8s (((((xs ++ putsI [p.state, p.within]) ++ strI (bytesOf p.utf.pend)) ++ strI p.marks) ++ putsI [((pn : Nat) : Int)]) ++ (p.params.take (k + 1)).flatMap (fun x => putN x.toNat))) := by
   have h := hO566
   rw [take_at (by omega)]
   simp only [putsI_cons, putsI_nil, List.flatMap_append, List.flatMap_cons, List.flatMap_nil, List.append_assoc, List.append_nil] at h ⊢
   exact h
  refine yE (fun a ha => hL551 (k + 1, og563, ng564, cp565) _ ⟨by omega, hOz, hA572, by omega, hB573, hbn570⟩ (by show pn - (k + 1) < pn - k; omega) a (ha.kp [0, 3, 35, 36, 37]))
 have hkp := hC552
 have hkn : k = p.params.length := by omega
 rw [hkn, List.take_length] at hO1
 refine x_exit (eS (then_exit (block_exit (nS ?_))))
 refine ysr <| yp 3 [] (.l (hbx1.c 7) .z) <| yo (yC (putText_any hO1 p.text (by omega)) ?_)
 rintro _ w581 ⟨og575, ng576, cp577, rfl, hO578, hn579, hA580⟩
 refine ⟨_, rfl, ?_⟩
 have hbn582 := hA580.apart hbx1.lt hbne1
 have hA583 := hA1.trans hA580
 refine yp 5 [] .z <| ye <| x_ret (yR1 (.slice (og575.map at0) ng576 cp577) ?_)
 exact ⟨_, _, _, rfl, by have h := hO578; unfold parsI; simp only [putsI_cons, putsI_nil, List.append_assoc, List.append_nil, Int.toNat_natCast] at h ⊢; rw [hql]; exact h, by omega, hA583⟩
end Go.Proofs.YtclnfbmmaofpjaaDoor.X
namespace Go.Proofs.YtclnfbmmaofpjaaDoor.X
open Go Go.RowKit Go.Proofs.YtclnfbmmaofpjaaDoor
structure EncOk (T : TS) : Prop where
  w : 0 ≤ T.grid.w ∧ T.grid.w ≤ 1000
  h : 0 ≤ T.grid.h ∧ T.grid.h ≤ 1000
  t : (0 ≤ T.top ∧ T.top ≤ 1000) ∧ 0 ≤ T.bot ∧ T.bot ≤ 1000
  c : CurB T.cursor
  s : CurB T.saved
  a : CurB T.away
  g : T.grid.lines.length ≤ 60 ∧ ∀ l ∈ T.grid.lines, l.length ≤ 60 ∧ ∀ c ∈ l, cOk c
  o : T.other.lines.length ≤ 60 ∧ ∀ l ∈ T.other.lines, l.length ≤ 60 ∧ ∀ c ∈ l, cOk c
  k : T.back.length ≤ 60 ∧ ∀ l ∈ T.back, l.length ≤ 60 ∧ ∀ c ∈ l, cOk c
  ti : T.title.size ≤ 1000
  r : T.reply.size ≤ 1000
  p : ParB T.parser
theorem CurOk.b {W H : Int} {c : Cur} (h : CurOk W H c) (hW : W ≤ 60) (hH : H ≤ 60) : CurB c := ⟨⟨h.x.1, by have := h.x.2; omega⟩, ⟨h.y.1, by have := h.y.2; omega⟩, h.s⟩
theorem DecOk.enc {T : TS} (h : DecOk T) : EncOk T := by
 have hw := h.w
 have hh := h.h
 have ht := h.t
 refine ⟨by omega, by omega, by omega, h.c.b hw.2 hh.2, h.s.b hw.2 hh.2, h.a.b hw.2 hh.2, ⟨by rw [h.g.1]; omega, fun l hl => ⟨by have := (h.g.2 l hl).1; omega, (h.g.2 l hl).2.2⟩⟩, ⟨by rw [h.g2.1]; omega, fun l hl => ⟨by have := (h.g2.2 l hl).1; omega, (h.g2.2 l hl).2.2⟩⟩, ⟨by have := h.k.1; omega, fun l hl => ⟨(h.k.2 l hl).2.1, (h.k.2 l hl).2.2.2⟩⟩, by have := h.ti; omega, by have := h.r; omega, ?_⟩
 have hp := h.p
 exact ⟨⟨hp.st.1, by have := hp.st.2; omega⟩, ⟨hp.wi.1, by have := hp.wi.2; omega⟩, hp.u.n, hp.u.pend, by have := hp.m; omega, by have := hp.n; omega, hp.b, by have := hp.t; omega⟩
theorem App.new {w w' : World} {o' : Option Nat} (h : App w w' none o') : ∀ b, o' = some b → w.heap.size ≤ b := fun b e => by
  rcases h.ne with rfl | ⟨g, rfl, hg⟩
  · cases e
  · cases e; exact hg
def tabL (f : Nat → Bool) : List Bool := (List.range 60).map f
theorem tabL_v (f : Nat → Bool) : (tabL f).map Value.bool = tabv f := by
 unfold tabL tabv
 rw [List.map_map]; rfl
theorem tabL_f (f : Nat → Bool) : flagsL (tabL f) = flagsF f 60 := by
 have hl : (tabL f).length = 60 := by simp [tabL]
 unfold flagsL
 rw [hl]
 refine flagsF_congr fun i hi => ?_
 unfold lb tabL
 simp [List.getD, hi]
theorem tabs_rd {w : World} {t g o : Nat} {bk ps : Value} {T : TS} (h : Blk w t (T.vals g o bk ps) tTerm) : Rd w (some ⟨t, 28, none⟩) ((tabL T.tabs).map Value.bool) := by
 rw [tabL_v]
 refine ⟨(fun e => by cases e), fun ad e j u hj => ?_⟩
 cases e
 have hl := (List.getElem?_eq_some_iff.1 hj).1
 have hj6 : j < 60 := by simpa [tabv] using hl
 have hu : u = .bool (T.tabs j) := by
  unfold tabv at hj
  rw [List.getElem?_map, List.getElem?_range hj6] at hj
  exact (Option.some.inj hj).symm
 have := tab_cell h ((j : Nat) : Int) (by omega) (by omega)
 rw [Int.toNat_natCast, Nat.mul_one] at this
 rw [add_pl, hu]
 exact this
theorem lines_take {rows : List Row} {k : Nat} {q : Row} (h : rows[k]? = some q) : (rows.map Row.l).take (k + 1) = (rows.map Row.l).take k ++ [q.l] := by
 have hk : k < (rows.map Row.l).length := by rw [List.length_map]; exact (List.getElem?_eq_some_iff.1 h).1
 rw [List.take_succ_eq_append_getElem hk]
 congr 2
 have : (rows.map Row.l)[k]? = some q.l := by rw [List.getElem?_map, h]; rfl
 exact (List.getElem?_eq_some_iff.1 this).2
theorem rows_at {rows : List Row} {k : Nat} (h : k < rows.length) : ∃ q, rows[k]? = some q ∧ q ∈ rows := ⟨_, List.getElem?_eq_getElem h, List.getElem_mem h⟩
set_option maxHeartbeats 4000000 in
theorem encode_any {w : World} {t : Nat} {T : TS} {F : Nat → Prop} (hA0 : TermAt w t T F) (he : EncOk T) : Calls Tryd.prog 9 [pX t].toArray w fun e w' =>
    ∃ o n cap, e = .returned (.slice (o.map at0) n cap) ∧ Own w' tU8 1 o n cap (u8s (encI T)) ∧ n ≤ 1000000 ∧ (∀ b, o = some b → w.heap.size ≤ b) ∧ Ch (fun _ => False) w w' := by
  obtain ⟨g, q, ba, bn, bc, pa, pn, pc, F1, F2, FB, FP, hI⟩ := hA0
  obtain ⟨r1, rc1, rw1, hG1⟩ := hI.g1
  obtain ⟨r2, rc2, rw2, hG2⟩ := hI.g2
  obtain ⟨rwB, hLB, hlB⟩ := hI.bk
  have hbnb : bn ≤ 60 := by have h1 := hLB.len; have h2 := he.k.1; rw [← hlB, List.length_map] at h2; omega
  have hew := he.w
  have heh := he.h
  have het := he.t
  have heti := he.ti
  have her := he.r
  have hfl1 := flagsL_lt [T.wrap, T.origin, T.insert, T.hidden, T.alt, T.draw0, T.draw1, T.shift] (by simp)
  have hfl2 := flagsL_lt (tabL T.tabs) (by simp [tabL])
  refine yA Tryd.func9 rfl ?_
  refine ysr ?_
  refine yp 1 [] .z ?_
  refine ye ?_
  refine ys ?_
  refine yD [26, 27] fun w10 hH11 hc12 => ?_
  have hO13 := (Own.nil w tU8 1).ch hc12 iZ
  have hA14 := (App.refl w none).step hc12 iZ
  refine yd (uL 0 26) [7, 15, 20, 25] (.l (cell_ch (ch_none hA14.ch) (hI.blk.c 0) id) (.l (cell_ch (ch_none hA14.ch) (hG1.head.c 0) id) (.p (q := InR .u64 T.grid.w) (in_u64 (by omega) (by omega)) (.l (cell_ch (ch_none hA14.ch) (hI.blk.c 0) id) (.l (cell_ch (ch_none hA14.ch) (hG1.head.c 1) id) (.p (q := InR .u64 T.grid.h) (in_u64 (by omega) (by omega)) (.l (cell_ch (ch_none hA14.ch) (hI.blk.c 26) id) (.p (q := InR .u64 T.top) (in_u64 (by omega) (by omega)) (.l (cell_ch (ch_none hA14.ch) (hI.blk.c 27) id) (.p (q := InR .u64 T.bot) (in_u64 (by omega) (by omega)) .z)))))))))) ?_
  refine yK 26 (yB [.int .u64 T.grid.w, .int .u64 T.grid.h, .int .u64 T.top, .int .u64 T.bot] 75 4 fun w15 b16 hb17 hz18 hB19 hc20 => ?_)
  have hbn21 : ∀ b', none = some b' → ¬ b' = b16 := fun b' e => by have := hO13.ltOf e; omega
  have hlo22 : w.heap.size ≤ b16 := by rw [hb17]; exact hA14.ch.size
  have hO23 := hO13.ch hc20 iZ
  have hA24 := hA14.step hc20 iZ
  refine x_killed ?_
  refine yK 27 (yC (put_any none 0 0 ([] : List Int) b16 4 [T.grid.w, T.grid.h, T.top, T.bot] _ hO23 (Rd.all hB19) rfl (by intro x hx; simp only [List.mem_cons, List.not_mem_nil, or_false] at hx; rcases hx with rfl | rfl | rfl | rfl <;> (constructor <;> omega)) hB19.lt hbn21 (by omega)) ?_)
  rintro _ w31 ⟨og25, ng26, cp27, rfl, hO28, hn29, hA30⟩
  refine ⟨_, rfl, ?_⟩
  have hbn32 := hA30.apart hB19.lt hbn21
  have hA33 := hA24.trans hA30
  have hB34 := hB19.ch hA30.ch (fun h => hbn21 _ h rfl)
  refine x_killed ?_
  refine yd [28] [] .z ?_
  refine yDe (nS ?_)
  refine ys ?_
  refine yD [35, 36, 41, 42, 43] fun w35 hH36 hc37 => ?_
  have hB38 := hB34.ch hc37 id
  have hO39 := hO28.ch hc37 iZ
  have hA40 := hA33.step hc37 iZ
  refine yd [0, 1, 2, 3, 4, 5, 6, 7, 8, 9, 10, 11, 12, 13, 14, 15, 16, 17, 18, 19, 20, 21, 22, 23, 24, 25, 26, 27, 28, 29, 30, 31, 32, 33, 34, 37, 38, 39, 40] [] (.l (cell_ch (ch_none hA40.ch) (hI.blk.c 88) id) (.l (cell_ch (ch_none hA40.ch) (hI.blk.c 89) id) (.l (cell_ch (ch_none hA40.ch) (hI.blk.c 90) id) (.l (cell_ch (ch_none hA40.ch) (hI.blk.c 91) id) (.l (cell_ch (ch_none hA40.ch) (hI.blk.c 95) id) (.i 0 (2) (.l (cell_ch (ch_none hA40.ch) (hI.blk.c 92) id) (.i 1 (2) (.l (cell_ch (ch_none hA40.ch) (hI.blk.c 93) id) (.l (cell_ch (ch_none hA40.ch) (hI.blk.c 94) id) .z)))))))))) ?_
  refine yK 35 (yB [.bool T.wrap, .bool T.origin, .bool T.insert, .bool T.hidden, .bool T.alt, .bool T.draw0, .bool T.draw1, .bool T.shift] 4 8 fun w41 b42 hb43 hz44 hB45 hc46 => ?_)
  have hbn47 : ∀ b', og25 = some b' → ¬ b' = b42 := fun b' e => by have := hO39.ltOf e; omega
  have hlo48 : w.heap.size ≤ b42 := by rw [hb43]; exact hA40.ch.size
  have hB49 := hB38.ch hc46 id
  have hO50 := hO39.ch hc46 iZ
  have hA51 := hA40.step hc46 iZ
  refine x_killed ?_
  refine yK 36 (yQ (flags_any b42 0 8 [T.wrap, T.origin, T.insert, T.hidden, T.alt, T.draw0, T.draw1, T.shift] _ (Rd.all (cs := [T.wrap, T.origin, T.insert, T.hidden, T.alt, T.draw0, T.draw1, T.shift].map Value.bool) hB45) rfl (by decide)) fun w53 hc52 => ?_)
  have hB54 := hB49.ch hc52 id
  have hO55 := hO50.ch hc52 iZ
  have hA56 := hA51.step hc52 iZ
  have hB57 := hB45.ch hc52 id
  refine x_killed ?_
  refine yK 41 (yQ (flags_any t 28 60 (tabL T.tabs) _ (Ch.rd (ch_none hA56.ch) (tabs_rd hI.blk) id) (by simp [tabL]) (by decide)) fun w59 hc58 => ?_)
  have hB60 := hB54.ch hc58 id
  have hO61 := hO55.ch hc58 iZ
  have hA62 := hA56.step hc58 iZ
  have hB63 := hB57.ch hc58 id
  refine x_killed ?_
  refine yK 42 (yB [.int .u64 ((flagsL [T.wrap, T.origin, T.insert, T.hidden, T.alt, T.draw0, T.draw1, T.shift] : Nat) : Int), .int .u64 ((flagsL (tabL T.tabs) : Nat) : Int)] 75 2 fun w64 b65 hb66 hz67 hB68 hc69 => ?_)
  have hbn70 : ∀ b', og25 = some b' → ¬ b' = b65 := fun b' e => by have := hO61.ltOf e; omega
  have hlo71 : w.heap.size ≤ b65 := by rw [hb66]; exact hA62.ch.size
  have hB72 := hB60.ch hc69 id
  have hO73 := hO61.ch hc69 iZ
  have hA74 := hA62.step hc69 iZ
  have hB75 := hB63.ch hc69 id
  refine x_killed ?_
  refine yK 43 (yC (put_any og25 ng26 cp27 (([] : List Int) ++ putsI [T.grid.w, T.grid.h, T.top, T.bot]) b65 2 [((flagsL [T.wrap, T.origin, T.insert, T.hidden, T.alt, T.draw0, T.draw1, T.shift] : Nat) : Int), ((flagsL (tabL T.tabs) : Nat) : Int)] _ hO73 (Rd.all hB68) rfl (by intro x hx; simp only [List.mem_cons, List.not_mem_nil, or_false] at hx; rcases hx with rfl | rfl <;> (constructor <;> omega)) hB68.lt hbn70 (by omega)) ?_)
  rintro _ w82 ⟨og76, ng77, cp78, rfl, hO79, hn80, hA81⟩
  refine ⟨_, rfl, ?_⟩
  have hbn83 := hA81.apart hB72.lt hbn32
  have hbn84 := hA81.apart hB75.lt hbn47
  have hbn85 := hA81.apart hB68.lt hbn70
  have hA86 := hA74.trans hA81
  have hB87 := hB72.ch hA81.ch (fun h => hbn32 _ h rfl)
  have hB88 := hB75.ch hA81.ch (fun h => hbn47 _ h rfl)
  have hB89 := hB68.ch hA81.ch (fun h => hbn70 _ h rfl)
  refine x_killed ?_
  refine yd [44] [] .z ?_
  refine yDe (nS ?_)
  refine ys ?_
  refine ys ?_
  refine yD [12] fun w90 hH91 hc92 => ?_
  have hB93 := hB87.ch hc92 id
  have hB94 := hB88.ch hc92 id
  have hB95 := hB89.ch hc92 id
  have hO96 := hO79.ch hc92 iZ
  have hA97 := hA86.step hc92 iZ
  refine yd [0, 1, 2, 3, 4, 5, 6, 7, 8, 9, 10, 11, 14] [] (.a (cellsC_ch (ch_none hA97.ch) (hI.blk.cs 2 8) id) (.a (cellsC_ch (ch_none hA97.ch) (hI.blk.cs 10 8) id) (.a (cellsC_ch (ch_none hA97.ch) (hI.blk.cs 18 8) id) .z))) ?_
  refine yK 12 (yB [iX T.cursor.x, iX T.cursor.y, .bool T.cursor.late, .bool T.cursor.sty.bold, .bool T.cursor.sty.under, .bool T.cursor.sty.turned, iX T.cursor.sty.fore, iX T.cursor.sty.back, iX T.saved.x, iX T.saved.y, .bool T.saved.late, .bool T.saved.sty.bold, .bool T.saved.sty.under, .bool T.saved.sty.turned, iX T.saved.sty.fore, iX T.saved.sty.back, iX T.away.x, iX T.away.y, .bool T.away.late, .bool T.away.sty.bold, .bool T.away.sty.under, .bool T.away.sty.turned, iX T.away.sty.fore, iX T.away.sty.back] 32 3 fun w98 b99 hb100 hz101 hB102 hc103 => ?_)
  have hbn104 : ∀ b', og76 = some b' → ¬ b' = b99 := fun b' e => by have := hO96.ltOf e; omega
  have hlo105 : w.heap.size ≤ b99 := by rw [hb100]; exact hA97.ch.size
  have hB106 := hB93.ch hc103 id
  have hB107 := hB94.ch hc103 id
  have hB108 := hB95.ch hc103 id
  have hO109 := hO96.ch hc103 iZ
  have hA110 := hA97.step hc103 iZ
  refine x_killed ?_
  refine yd [13] [] .z ?_
  refine yDe (nS ?_)
  refine x_block ?_
  refine yU 4 (yU1 ?_)
  refine ysr ?_
  refine yp 1 [] .z ?_
  refine ye ?_
  refine ys ?_
  refine yct ?_
  refine yk ?_
  refine ys ?_
  refine x_block ?_
  refine ysr ?_
  refine yp 2 [] (.i 0 (3) (.a (hB102.cs 0 8) .z)) ?_
  refine yo (yN [iX 0, iX 0, .bool false, .bool false, .bool false, .bool false, iX 0, iX 0] 32 fun w111 b112 hb113 hz114 hB115 hc116 => ?_)
  have hbn117 : ∀ b', og76 = some b' → ¬ b' = b112 := fun b' e => by have := hO109.ltOf e; omega
  have hlo118 : w.heap.size ≤ b112 := by rw [hb113]; exact hA110.ch.size
  have hB119 := hB106.ch hc116 id
  have hB120 := hB107.ch hc116 id
  have hB121 := hB108.ch hc116 id
  have hO122 := hO109.ch hc116 iZ
  have hA123 := hA110.step hc116 iZ
  have hB124 := hB102.ch hc116 id
  refine yo (yS hB115 fun w125 hB126 hc127 => ?_)
  have hB128 := hB119.ch hc127 (fun (h : b16 = b112) => by have := hB106.lt; omega)
  have hB129 := hB120.ch hc127 (fun (h : b42 = b112) => by have := hB107.lt; omega)
  have hB130 := hB121.ch hc127 (fun (h : b65 = b112) => by have := hB108.lt; omega)
  have hO131 := hO122.ch hc127 (fun b e (h : b = b112) => hbn117 b e h)
  have hA132 := hA123.step hc127 (fun i hi (h : i = b112) => by have := hlo118; omega)
  have hB133 := hB124.ch hc127 (fun (h : b99 = b112) => by have := hB102.lt; omega)
  replace hB126 : Blk w125 b112 [iX T.cursor.x, iX T.cursor.y, .bool T.cursor.late, .bool T.cursor.sty.bold, .bool T.cursor.sty.under, .bool T.cursor.sty.turned, iX T.cursor.sty.fore, iX T.cursor.sty.back] _ := Blk.to hB126 (by kernel_rfl)
  refine ye ?_
  refine x_region ?_
  refine yp 2 [] (.a (hB126.cs 0 8) .z) ?_
  refine yo (yC (putCur_any hO131 T.cursor he.c (by omega)) ?_)
  rintro _ w140 ⟨og134, ng135, cp136, rfl, hO137, hn138, hA139⟩
  refine ⟨_, rfl, ?_⟩
  have hbn141 := hA139.apart hB128.lt hbn83
  have hbn142 := hA139.apart hB129.lt hbn84
  have hbn143 := hA139.apart hB130.lt hbn85
  have hbn144 := hA139.apart hB133.lt hbn104
  have hbn145 := hA139.apart hB126.lt hbn117
  have hA146 := hA132.trans hA139
  have hB150 := hB133.ch hA139.ch (fun h => hbn104 _ h rfl)
  refine yp 4 [] .z ?_
  refine yE (nB (nS ?_))
  refine x_region ?_
  refine yp 2 [] (.q6 1 .z) ?_
  refine yE (nU (yU1 ?_))
  refine ysr ?_
  refine yp 1 [] .z ?_
  refine ye ?_
  refine ys ?_
  refine yct ?_
  refine yk ?_
  refine ys ?_
  refine x_block ?_
  refine ysr ?_
  refine yp 2 [] (.i 1 (3) (.a (hB150.cs 8 8) .z)) ?_
  refine yo (yN [iX 0, iX 0, .bool false, .bool false, .bool false, .bool false, iX 0, iX 0] 32 fun w152 b153 hb154 hz155 hB156 hc157 => ?_)
  have hbn158 : ∀ b', og134 = some b' → ¬ b' = b153 := fun b' e => by have := hO137.ltOf e; omega
  have hlo159 : w.heap.size ≤ b153 := by rw [hb154]; exact hA146.ch.size
  have hB160 := hB150.ch hc157 id
  have hO161 := hO137.ch hc157 iZ
  have hA162 := hA146.step hc157 iZ
  refine yo (yS hB156 fun w163 hB164 hc165 => ?_)
  have hB166 := hB160.ch hc165 (fun (h : b99 = b153) => by have := hB150.lt; omega)
  have hO167 := hO161.ch hc165 (fun b e (h : b = b153) => hbn158 b e h)
  have hA168 := hA162.step hc165 (fun i hi (h : i = b153) => by have := hlo159; omega)
  replace hB164 : Blk w163 b153 [iX T.saved.x, iX T.saved.y, .bool T.saved.late, .bool T.saved.sty.bold, .bool T.saved.sty.under, .bool T.saved.sty.turned, iX T.saved.sty.fore, iX T.saved.sty.back] _ := Blk.to hB164 (by kernel_rfl)
  refine ye ?_
  refine x_region ?_
  refine yp 2 [] (.a (hB164.cs 0 8) .z) ?_
  refine yo (yC (putCur_any hO167 T.saved he.s (by omega)) ?_)
  rintro _ w175 ⟨og169, ng170, cp171, rfl, hO172, hn173, hA174⟩
  refine ⟨_, rfl, ?_⟩
  have hbn176 := hA174.apart hB166.lt hbn144
  have hbn177 := hA174.apart hB164.lt hbn158
  have hA178 := hA168.trans hA174
  have hB179 := hB166.ch hA174.ch (fun h => hbn144 _ h rfl)
  refine yp 4 [] .z ?_
  refine yE (nB (nS ?_))
  refine x_region ?_
  refine yp 2 [] (.q6 2 .z) ?_
  refine yE (nU (yU1 ?_))
  refine ysr ?_
  refine yp 1 [] .z ?_
  refine ye ?_
  refine ys ?_
  refine yct ?_
  refine yk ?_
  refine ys ?_
  refine x_block ?_
  refine ysr ?_
  refine yp 2 [] (.i 2 (3) (.a (hB179.cs 16 8) .z)) ?_
  refine yo (yN [iX 0, iX 0, .bool false, .bool false, .bool false, .bool false, iX 0, iX 0] 32 fun w181 b182 hb183 hz184 hB185 hc186 => ?_)
  have hbn187 : ∀ b', og169 = some b' → ¬ b' = b182 := fun b' e => by have := hO172.ltOf e; omega
  have hlo188 : w.heap.size ≤ b182 := by rw [hb183]; exact hA178.ch.size
  have hB189 := hB179.ch hc186 id
  have hO190 := hO172.ch hc186 iZ
  have hA191 := hA178.step hc186 iZ
  refine yo (yS hB185 fun w192 hB193 hc194 => ?_)
  have hB195 := hB189.ch hc194 (fun (h : b99 = b182) => by have := hB179.lt; omega)
  have hO196 := hO190.ch hc194 (fun b e (h : b = b182) => hbn187 b e h)
  have hA197 := hA191.step hc194 (fun i hi (h : i = b182) => by have := hlo188; omega)
  replace hB193 : Blk w192 b182 [iX T.away.x, iX T.away.y, .bool T.away.late, .bool T.away.sty.bold, .bool T.away.sty.under, .bool T.away.sty.turned, iX T.away.sty.fore, iX T.away.sty.back] _ := Blk.to hB193 (by kernel_rfl)
  refine ye ?_
  refine x_region ?_
  refine yp 2 [] (.a (hB193.cs 0 8) .z) ?_
  refine yo (yC (putCur_any hO196 T.away he.a (by omega)) ?_)
  rintro _ w204 ⟨og198, ng199, cp200, rfl, hO201, hn202, hA203⟩
  refine ⟨_, rfl, ?_⟩
  have hbn205 := hA203.apart hB195.lt hbn176
  have hbn206 := hA203.apart hB193.lt hbn187
  have hA207 := hA197.trans hA203
  refine yp 4 [] .z ?_
  refine yE (nB (nS ?_))
  refine x_region ?_
  refine yp 2 [] (.q6 3 .z) ?_
  refine yE (nU (yU1 ?_))
  refine ysr ?_
  refine yp 1 [] .z ?_
  refine ye ?_
  refine ys ?_
  refine ycf ?_
  refine x_exit (eS (then_exit (block_exit (nS ?_))))
  refine ys ?_
  refine ys ?_
  refine yD [8] fun w210 hH211 hc212 => ?_
  have hO214 := hO201.ch hc212 iZ
  have hA215 := hA207.step hc212 iZ
  refine yd [0, 1, 2, 3, 4, 5, 6, 7, 10] [] (.l (cell_ch (ch_none hA215.ch) (hI.blk.c 0) id) (.l (cell_ch (ch_none hA215.ch) (hI.blk.c 1) id) .z)) ?_
  refine yK 8 (yB [pX g, pX q] 28 2 fun w216 b217 hb218 hz219 hB220 hc221 => ?_)
  have hbn222 : ∀ b', og198 = some b' → ¬ b' = b217 := fun b' e => by have := hO214.ltOf e; omega
  have hlo223 : w.heap.size ≤ b217 := by rw [hb218]; exact hA215.ch.size
  have hO225 := hO214.ch hc221 iZ
  have hA226 := hA215.step hc221 iZ
  refine x_killed ?_
  refine yd [9] [] .z ?_
  refine yDe (nS ?_)
  refine x_block ?_
  refine yU 3 (yU1 ?_)
  refine ysr ?_
  refine yp 1 [] .z ?_
  refine ye ?_
  refine ys ?_
  refine yct ?_
  refine yk ?_
  refine ys ?_
  refine x_block ?_
  refine ysr ?_
  refine yf (f' := [(0, pX t), (3, .slice (og198.map at0) ng199 cp200), (7, pX g), (114, .slice (some ⟨b217, 0, none⟩) 2 2), (115, iX 2), (116, iX 0)]) 3 [] [0, 3, 7, 114, 115, 116] (.i 0 (2) (.l (hB220.c 0) .z)) ?_
  refine ye ?_
  refine ysr ?_
  refine yp 6 [] (.l (cell_ch (ch_none hA226.ch) (hG1.head.c 2) id) .z) ?_
  refine ye ?_
  refine x_block ?_
  have hsz227 := he.g.1
  rw [← hG1.lines, List.length_map] at hsz227
  refine ykeep [0, 3, 114, 115, 116, 123, 124, 125] (f' := [(0, pX t), (3, .slice (og198.map at0) ng199 cp200), (114, .slice (some ⟨b217, 0, none⟩) 2 2), (115, iX 2), (116, iX 0), (123, .slice (some ⟨r1, 0, none⟩) rw1.length rc1), (124, iX ((rw1.length : Nat) : Int)), (125, iX 0)]) ?_
  refine x_loop (σ := Nat × Option Nat × Nat × Nat) (fun ⟨k227, o227, n227, c227⟩ => [(0, pX t), (3, .slice (o227.map at0) n227 c227), (114, .slice (some ⟨b217, 0, none⟩) 2 2), (115, iX 2), (116, iX 0), (123, .slice (some ⟨r1, 0, none⟩) rw1.length rc1), (124, iX ((rw1.length : Nat) : Int)), (125, iX ((k227 : Nat) : Int))]) (fun ⟨k227, o227, n227, c227⟩ u => k227 ≤ rw1.length ∧ Own u tU8 1 o227 n227 c227 (u8s ((((((([] : List Int) ++ putsI [T.grid.w, T.grid.h, T.top, T.bot]) ++ putsI [((flagsL [T.wrap, T.origin, T.insert, T.hidden, T.alt, T.draw0, T.draw1, T.shift] : Nat) : Int), ((flagsL (tabL T.tabs) : Nat) : Int)]) ++ curI T.cursor) ++ curI T.saved) ++ curI T.away) ++ ((rw1.map Row.l).take k227).flatMap lineI)) ∧ App w u none o227 ∧ n227 ≤ ng199 + 1800 * k227 ∧ Blk u b217 [pX g, pX q] 28 ∧ ∀ b, o227 = some b → ¬ b = b217) (fun ⟨k227, o227, n227, c227⟩ => rw1.length - k227) (0, og198, ng199, cp200) rfl ?_ ?_
  · exact ⟨Nat.zero_le _, (by rw [List.take_zero, List.flatMap_nil, List.append_nil]; exact hO225), hA226, Nat.le_refl _, hB220, hbn222⟩
  · intro p w228 hI229 K230 hL231
    obtain ⟨k227, o227, n227, c227⟩ := p
    obtain ⟨hk227, hO227, hA227, hn227, hkb227, hkn227⟩ := hI229
    refine ysr ?_
    refine yp 1 [] .z ?_
    refine ye ?_
    refine ys ?_
    refine yc (rL ((k227 : Nat) : Int) ((rw1.length : Nat) : Int)) (fun hC232 => ?_) fun hC232 => ?_
    · have hc227 := hC232
      obtain ⟨q227, hq227, hq227m⟩ := rows_at (rows := rw1) (k := k227) (by omega)
      obtain ⟨hlnq227, hcsq227⟩ := he.g.2 q227.l (by rw [← hG1.lines]; exact List.mem_map_of_mem hq227m)
      have hqnq227 := (hG1.line q227 hq227m).2
      refine yk ?_
      refine ys ?_
      refine x_block ?_
      refine ysr ?_
      refine yp 3 [] (.i ((k227 : Nat) : Int) (rw1.length) (.l (ln_cell (Ch.rd (ch_none hA227.ch) hG1.body.rd id) hq227) .z)) ?_
      refine ye ?_
      refine x_region ?_
      refine yp 2 [] .z ?_
      refine yo (yC (putLine_any hO227 q227.b q227.n q227.cap q227.l (Ch.rd (ch_none hA227.ch) (hG1.line q227 hq227m).1.rd id) (Nat.lt_of_lt_of_le (hG1.line q227 hq227m).1.lt hA227.ch.size) (hA227.apart (hG1.line q227 hq227m).1.lt (fun b e => by cases e)) (hG1.line q227 hq227m).2 hcsq227 (by omega)) ?_)
      rintro _ w239 ⟨og233, ng234, cp235, rfl, hO236, hn237, hA238⟩
      refine ⟨_, rfl, ?_⟩
      have hbn240 := hA238.apart hkb227.lt hkn227
      have hA241 := hA227.trans hA238
      have hB242 := hkb227.ch hA238.ch (fun h => hkn227 _ h rfl)
      refine yp 4 [] .z ?_
      refine yE (nB (nS ?_))
      refine x_region ?_
      refine yp 2 [] (.q6 (((k227 : Nat) : Int) + 1) .z) ?_
      have hOz243 : Own w239 tU8 1 og233 ng234 cp235 (u8s ((((((([] : List Int) ++ putsI [T.grid.w, T.grid.h, T.top, T.bot]) ++ putsI [((flagsL [T.wrap, T.origin, T.insert, T.hidden, T.alt, T.draw0, T.draw1, T.shift] : Nat) : Int), ((flagsL (tabL T.tabs) : Nat) : Int)]) ++ curI T.cursor) ++ curI T.saved) ++ curI T.away) ++ ((rw1.map Row.l).take (k227 + 1)).flatMap lineI)) := by
        have h := hO236
        rw [lines_take hq227]
        simp only [putsI_cons, putsI_nil, List.flatMap_append, List.flatMap_cons, List.flatMap_nil, List.append_assoc, List.append_nil, Int.toNat_natCast] at h ⊢
        exact h
      refine yE (fun a ha => hL231 (k227 + 1, og233, ng234, cp235) _ ⟨by omega, hOz243, hA241, by omega, hB242, hbn240⟩ (by show rw1.length - (k227 + 1) < rw1.length - k227; omega) a (ha.kp [0, 3, 114, 115, 116, 123, 124, 125]))
    · have hc227 := hC232
      have he227 : k227 = (rw1.map Row.l).length := by rw [List.length_map]; omega
      rw [he227, List.take_length, hG1.lines] at hO227
      refine x_exit (eS (then_exit (block_exit (nB (nS ?_)))))
      refine x_region ?_
      refine yp 2 [] (.q6 1 .z) ?_
      refine yE (nU (yU1 ?_))
      refine ysr ?_
      refine yp 1 [] .z ?_
      refine ye ?_
      refine ys ?_
      refine yct ?_
      refine yk ?_
      refine ys ?_
      refine x_block ?_
      refine ysr ?_
      refine yp 3 [] (.i 1 (2) (.l (hkb227.c 1) .z)) ?_
      refine ye ?_
      refine ysr ?_
      refine yp 6 [] (.l (cell_ch (ch_none hA227.ch) (hG2.head.c 2) id) .z) ?_
      refine ye ?_
      refine x_block ?_
      have hsz244 := he.o.1
      rw [← hG2.lines, List.length_map] at hsz244
      refine ykeep [0, 3, 114, 115, 116, 123, 124, 125] (f' := [(0, pX t), (3, .slice (o227.map at0) n227 c227), (114, .slice (some ⟨b217, 0, none⟩) 2 2), (115, iX 2), (116, iX 1), (123, .slice (some ⟨r2, 0, none⟩) rw2.length rc2), (124, iX ((rw2.length : Nat) : Int)), (125, iX 0)]) ?_
      refine x_loop (σ := Nat × Option Nat × Nat × Nat) (fun ⟨k244, o244, n244, c244⟩ => [(0, pX t), (3, .slice (o244.map at0) n244 c244), (114, .slice (some ⟨b217, 0, none⟩) 2 2), (115, iX 2), (116, iX 1), (123, .slice (some ⟨r2, 0, none⟩) rw2.length rc2), (124, iX ((rw2.length : Nat) : Int)), (125, iX ((k244 : Nat) : Int))]) (fun ⟨k244, o244, n244, c244⟩ u => k244 ≤ rw2.length ∧ Own u tU8 1 o244 n244 c244 (u8s (((((((([] : List Int) ++ putsI [T.grid.w, T.grid.h, T.top, T.bot]) ++ putsI [((flagsL [T.wrap, T.origin, T.insert, T.hidden, T.alt, T.draw0, T.draw1, T.shift] : Nat) : Int), ((flagsL (tabL T.tabs) : Nat) : Int)]) ++ curI T.cursor) ++ curI T.saved) ++ curI T.away) ++ (T.grid.lines).flatMap lineI) ++ ((rw2.map Row.l).take k244).flatMap lineI)) ∧ App w u none o244 ∧ n244 ≤ n227 + 1800 * k244 ∧ Blk u b217 [pX g, pX q] 28 ∧ ∀ b, o244 = some b → ¬ b = b217) (fun ⟨k244, o244, n244, c244⟩ => rw2.length - k244) (0, o227, n227, c227) rfl ?_ ?_
      · exact ⟨Nat.zero_le _, (by rw [List.take_zero, List.flatMap_nil, List.append_nil]; exact hO227), hA227, Nat.le_refl _, hkb227, hkn227⟩
      · intro p w245 hI246 K247 hL248
        obtain ⟨k244, o244, n244, c244⟩ := p
        obtain ⟨hk244, hO244, hA244, hn244, hkb244, hkn244⟩ := hI246
        refine ysr ?_
        refine yp 1 [] .z ?_
        refine ye ?_
        refine ys ?_
        refine yc (rL ((k244 : Nat) : Int) ((rw2.length : Nat) : Int)) (fun hC249 => ?_) fun hC249 => ?_
        · have hc244 := hC249
          obtain ⟨q244, hq244, hq244m⟩ := rows_at (rows := rw2) (k := k244) (by omega)
          obtain ⟨hlnq244, hcsq244⟩ := he.o.2 q244.l (by rw [← hG2.lines]; exact List.mem_map_of_mem hq244m)
          have hqnq244 := (hG2.line q244 hq244m).2
          refine yk ?_
          refine ys ?_
          refine x_block ?_
          refine ysr ?_
          refine yp 3 [] (.i ((k244 : Nat) : Int) (rw2.length) (.l (ln_cell (Ch.rd (ch_none hA244.ch) hG2.body.rd id) hq244) .z)) ?_
          refine ye ?_
          refine x_region ?_
          refine yp 2 [] .z ?_
          refine yo (yC (putLine_any hO244 q244.b q244.n q244.cap q244.l (Ch.rd (ch_none hA244.ch) (hG2.line q244 hq244m).1.rd id) (Nat.lt_of_lt_of_le (hG2.line q244 hq244m).1.lt hA244.ch.size) (hA244.apart (hG2.line q244 hq244m).1.lt (fun b e => by cases e)) (hG2.line q244 hq244m).2 hcsq244 (by omega)) ?_)
          rintro _ w256 ⟨og250, ng251, cp252, rfl, hO253, hn254, hA255⟩
          refine ⟨_, rfl, ?_⟩
          have hbn257 := hA255.apart hkb244.lt hkn244
          have hA258 := hA244.trans hA255
          have hB259 := hkb244.ch hA255.ch (fun h => hkn244 _ h rfl)
          refine yp 4 [] .z ?_
          refine yE (nB (nS ?_))
          refine x_region ?_
          refine yp 2 [] (.q6 (((k244 : Nat) : Int) + 1) .z) ?_
          have hOz260 : Own w256 tU8 1 og250 ng251 cp252 (u8s (((((((([] : List Int) ++ putsI [T.grid.w, T.grid.h, T.top, T.bot]) ++ putsI [((flagsL [T.wrap, T.origin, T.insert, T.hidden, T.alt, T.draw0, T.draw1, T.shift] : Nat) : Int), ((flagsL (tabL T.tabs) : Nat) : Int)]) ++ curI T.cursor) ++ curI T.saved) ++ curI T.away) ++ (T.grid.lines).flatMap lineI) ++ ((rw2.map Row.l).take (k244 + 1)).flatMap lineI)) := by
            have h := hO253
            rw [lines_take hq244]
            simp only [putsI_cons, putsI_nil, List.flatMap_append, List.flatMap_cons, List.flatMap_nil, List.append_assoc, List.append_nil, Int.toNat_natCast] at h ⊢
            exact h
          refine yE (fun a ha => hL248 (k244 + 1, og250, ng251, cp252) _ ⟨by omega, hOz260, hA258, by omega, hB259, hbn257⟩ (by show rw2.length - (k244 + 1) < rw2.length - k244; omega) a (ha.kp [0, 3, 114, 115, 116, 123, 124, 125]))
        · have hc244 := hC249
          have he244 : k244 = (rw2.map Row.l).length := by rw [List.length_map]; omega
          rw [he244, List.take_length, hG2.lines] at hO244
          refine x_exit (eS (then_exit (block_exit (nB (nS ?_)))))
          refine x_region ?_
          refine yp 2 [] (.q6 2 .z) ?_
          refine yE (nU (yU1 ?_))
          refine ysr ?_
          refine yp 1 [] .z ?_
          refine ye ?_
          refine ys ?_
          refine ycf ?_
          refine x_exit (eS (then_exit (block_exit (nS ?_))))
          refine ysr ?_
          refine yp 7 [6] (.l (cell_ch (ch_none hA244.ch) (hI.blk.c 97) id) (.p (q := InR .u64 ((bn : Nat) : Int)) (in_u64 (by omega) (by omega)) .z)) ?_
          refine yo (yB [.int .u64 ((bn : Nat) : Int)] 75 1 fun w261 b262 hb263 hz264 hB265 hc266 => ?_)
          have hbn267 : ∀ b', o244 = some b' → ¬ b' = b262 := fun b' e => by have := hO244.ltOf e; omega
          have hlo268 : w.heap.size ≤ b262 := by rw [hb263]; exact hA244.ch.size
          have hO269 := hO244.ch hc266 iZ
          have hA270 := hA244.step hc266 iZ
          have hB271 := hkb244.ch hc266 id
          refine yo (yC (put_any o244 n244 c244 (((((((([] : List Int) ++ putsI [T.grid.w, T.grid.h, T.top, T.bot]) ++ putsI [((flagsL [T.wrap, T.origin, T.insert, T.hidden, T.alt, T.draw0, T.draw1, T.shift] : Nat) : Int), ((flagsL (tabL T.tabs) : Nat) : Int)]) ++ curI T.cursor) ++ curI T.saved) ++ curI T.away) ++ (T.grid.lines).flatMap lineI) ++ (T.other.lines).flatMap lineI) b262 1 [((bn : Nat) : Int)] _ hO269 (Rd.all hB265) rfl (by intro x hx; simp only [List.mem_cons, List.not_mem_nil, or_false] at hx; subst hx; constructor <;> omega) hB265.lt hbn267 (by omega)) ?_)
          rintro _ w278 ⟨og272, ng273, cp274, rfl, hO275, hn276, hA277⟩
          refine ⟨_, rfl, ?_⟩
          have hbn279 := hA277.apart hB271.lt hkn244
          have hbn280 := hA277.apart hB265.lt hbn267
          have hA281 := hA270.trans hA277
          have hB282 := hB271.ch hA277.ch (fun h => hkn244 _ h rfl)
          refine yp 10 [] .z ?_
          refine ye ?_
          refine ys ?_
          refine ysr ?_
          refine yp 6 [] (.l (cell_ch (ch_none hA281.ch) (hI.blk.c 97) id) .z) ?_
          refine ye ?_
          refine x_block ?_
          have hsz284 := he.k.1
          rw [← hlB, List.length_map] at hsz284
          have hbl284 := hLB.len
          refine ykeep [0, 3, 146, 147, 148] (f' := [(0, pX t), (3, .slice (og272.map at0) ng273 cp274), (146, .slice ba bn bc), (147, iX ((bn : Nat) : Int)), (148, iX 0)]) ?_
          refine x_loop (σ := Nat × Option Nat × Nat × Nat) (fun ⟨k284, o284, n284, c284⟩ => [(0, pX t), (3, .slice (o284.map at0) n284 c284), (146, .slice ba bn bc), (147, iX ((bn : Nat) : Int)), (148, iX ((k284 : Nat) : Int))]) (fun ⟨k284, o284, n284, c284⟩ u => k284 ≤ bn ∧ Own u tU8 1 o284 n284 c284 (u8s (((((((((([] : List Int) ++ putsI [T.grid.w, T.grid.h, T.top, T.bot]) ++ putsI [((flagsL [T.wrap, T.origin, T.insert, T.hidden, T.alt, T.draw0, T.draw1, T.shift] : Nat) : Int), ((flagsL (tabL T.tabs) : Nat) : Int)]) ++ curI T.cursor) ++ curI T.saved) ++ curI T.away) ++ (T.grid.lines).flatMap lineI) ++ (T.other.lines).flatMap lineI) ++ putsI [((bn : Nat) : Int)]) ++ ((rwB.map Row.l).take k284).flatMap (fun l => putN l.length ++ lineI l))) ∧ App w u none o284 ∧ n284 ≤ ng273 + 1810 * k284 ∧ Blk u b217 [pX g, pX q] 28 ∧ ∀ b, o284 = some b → ¬ b = b217) (fun ⟨k284, o284, n284, c284⟩ => bn - k284) (0, og272, ng273, cp274) rfl ?_ ?_
          · exact ⟨Nat.zero_le _, (by rw [List.take_zero, List.flatMap_nil, List.append_nil]; exact hO275), hA281, Nat.le_refl _, hB282, hbn279⟩
          · intro p w285 hI286 K287 hL288
            obtain ⟨k284, o284, n284, c284⟩ := p
            obtain ⟨hk284, hO284, hA284, hn284, hkb284, hkn284⟩ := hI286
            refine ysr ?_
            refine yp 1 [] .z ?_
            refine ye ?_
            refine ys ?_
            refine yc (rL ((k284 : Nat) : Int) ((bn : Nat) : Int)) (fun hC289 => ?_) fun hC289 => ?_
            · have hc284 := hC289
              obtain ⟨bb, bo, rfl⟩ := ln_some hI.bz hLB (by omega)
              obtain ⟨q284, hq284, hq284m⟩ := rows_at (rows := rwB) (k := k284) (by omega)
              obtain ⟨hlnq284, hcsq284⟩ := he.k.2 q284.l (by rw [← hlB]; exact List.mem_map_of_mem hq284m)
              have hqnq284 := (hLB.line q284 hq284m).2
              refine yk ?_
              refine ys ?_
              refine x_block ?_
              refine ysr ?_
              refine yp 3 [] (.i ((k284 : Nat) : Int) (bn) (.l (ln_cell (Ch.rd (ch_none hA284.ch) hLB.rd id) hq284) .z)) ?_
              refine ye ?_
              refine x_region ?_
              refine yp 4 [3] (.p (q := InR .u64 ((q284.n : Nat) : Int)) (in_u64 (by omega) (by omega)) .z) ?_
              refine yo (yB [.int .u64 ((q284.n : Nat) : Int)] 75 1 fun w290 b291 hb292 hz293 hB294 hc295 => ?_)
              have hbn296 : ∀ b', o284 = some b' → ¬ b' = b291 := fun b' e => by have := hO284.ltOf e; omega
              have hlo297 : w.heap.size ≤ b291 := by rw [hb292]; exact hA284.ch.size
              have hB298 := hkb284.ch hc295 id
              have hO299 := hO284.ch hc295 iZ
              have hA300 := hA284.step hc295 iZ
              refine yo (yC (put_any o284 n284 c284 (((((((((([] : List Int) ++ putsI [T.grid.w, T.grid.h, T.top, T.bot]) ++ putsI [((flagsL [T.wrap, T.origin, T.insert, T.hidden, T.alt, T.draw0, T.draw1, T.shift] : Nat) : Int), ((flagsL (tabL T.tabs) : Nat) : Int)]) ++ curI T.cursor) ++ curI T.saved) ++ curI T.away) ++ (T.grid.lines).flatMap lineI) ++ (T.other.lines).flatMap lineI) ++ putsI [((bn : Nat) : Int)]) ++ ((rwB.map Row.l).take k284).flatMap (fun l => putN l.length ++ lineI l)) b291 1 [((q284.n : Nat) : Int)] _ hO299 (Rd.all hB294) rfl (by intro x hx; simp only [List.mem_cons, List.not_mem_nil, or_false] at hx; subst hx; constructor <;> omega) hB294.lt hbn296 (by omega)) ?_)
              rintro _ w307 ⟨og301, ng302, cp303, rfl, hO304, hn305, hA306⟩
              refine ⟨_, rfl, ?_⟩
              have hbn308 := hA306.apart hB298.lt hkn284
              have hbn309 := hA306.apart hB294.lt hbn296
              have hA310 := hA300.trans hA306
              have hB311 := hB298.ch hA306.ch (fun h => hkn284 _ h rfl)
              have hB312 := hB294.ch hA306.ch (fun h => hbn296 _ h rfl)
              refine yp 7 [] .z ?_
              refine yo (yC (putLine_any hO304 q284.b q284.n q284.cap q284.l (Ch.rd (ch_none hA310.ch) (hLB.line q284 hq284m).1.rd id) (Nat.lt_of_lt_of_le (hLB.line q284 hq284m).1.lt hA310.ch.size) (hA310.apart (hLB.line q284 hq284m).1.lt (fun b e => by cases e)) (hLB.line q284 hq284m).2 hcsq284 (by omega)) ?_)
              rintro _ w319 ⟨og313, ng314, cp315, rfl, hO316, hn317, hA318⟩
              refine ⟨_, rfl, ?_⟩
              have hbn320 := hA318.apart hB311.lt hbn308
              have hbn321 := hA318.apart hB312.lt hbn309
              have hA322 := hA310.trans hA318
              have hB323 := hB311.ch hA318.ch (fun h => hbn308 _ h rfl)
              refine yp 9 [] .z ?_
              refine yE (nB (nS ?_))
              refine x_region ?_
              refine yp 2 [] (.q6 (((k284 : Nat) : Int) + 1) .z) ?_
              have hOz325 : Own w319 tU8 1 og313 ng314 cp315 (u8s (((((((((([] : List Int) ++ putsI [T.grid.w, T.grid.h, T.top, T.bot]) ++ putsI [((flagsL [T.wrap, T.origin, T.insert, T.hidden, T.alt, T.draw0, T.draw1, T.shift] : Nat) : Int), ((flagsL (tabL T.tabs) : Nat) : Int)]) ++ curI T.cursor) ++ curI T.saved) ++ curI T.away) ++ (T.grid.lines).flatMap lineI) ++ (T.other.lines).flatMap lineI) ++ putsI [((bn : Nat) : Int)]) ++ ((rwB.map Row.l).take (k284 + 1)).flatMap (fun l => putN l.length ++ lineI l))) := by
                have h := hO316
                rw [lines_take hq284]
                simp only [putsI_cons, putsI_nil, List.flatMap_append, List.flatMap_cons, List.flatMap_nil, List.append_assoc, List.append_nil, Int.toNat_natCast] at h ⊢
                rw [hqnq284]
                exact h
              refine yE (fun a ha => hL288 (k284 + 1, og313, ng314, cp315) _ ⟨by omega, hOz325, hA322, by omega, hB323, hbn320⟩ (by show bn - (k284 + 1) < bn - k284; omega) a (ha.kp [0, 3, 146, 147, 148]))
            · have hc284 := hC289
              have he284 : k284 = (rwB.map Row.l).length := by rw [List.length_map]; omega
              rw [he284, List.take_length, hlB] at hO284
              refine x_exit (eS (then_exit (block_exit (nS ?_))))
              refine ys ?_
              refine x_drawnB (fun b => w.heap.size ≤ b) [15] (by kernel_rfl) (fun w326 hH327 hc328 => ?_)
              have hB329 := hkb284.ch hc328 id
              have hO330 := hO284.ch hc328 iZ
              have hA331 := hA284.step hc328 iZ
              refine ydC [0, 1, 2, 3, 4, 6, 7, 8, 9, 11, 12, 13, 14] [] (fun u hu => (.l (cell_ch hu (cell_ch (ch_none hA331.ch) (hI.blk.c 96) id) (fun h => by have := hI.blk.lt; omega)) (.l (cell_ch hu (cell_ch (ch_none hA331.ch) (hI.blk.c 107) id) (fun h => by have := hI.blk.lt; omega)) (.a (cellsC_ch hu (cellsC_ch (ch_none hA331.ch) (hI.blk.cs 98 9) id) (fun h => by have := hI.blk.lt; omega)) .z)))) ?_
              refine yH 5 (yC (putText_any hO330 T.title (by omega)) ?_)
              rintro _ w338 ⟨og332, ng333, cp334, rfl, hO335, hn336, hA337⟩
              refine ⟨_, rfl, ?_⟩
              have hbn339 := hA337.apart hB329.lt hkn284
              have hA340 := hA331.trans hA337
              have hB341 := hB329.ch hA337.ch (fun h => hkn284 _ h rfl)
              refine x_heldB hA337.ch ((fun i _ h => hA331.new i h)) ?_
              refine yH 10 (yC (putText_any hO335 T.reply (by omega)) ?_)
              rintro _ w348 ⟨og342, ng343, cp344, rfl, hO345, hn346, hA347⟩
              refine ⟨_, rfl, ?_⟩
              have hbn349 := hA347.apart hB341.lt hbn339
              have hA350 := hA340.trans hA347
              have hB351 := hB341.ch hA347.ch (fun h => hbn339 _ h rfl)
              refine x_heldB hA347.ch ((fun i _ h => hA340.new i h)) ?_
              refine yK 15 (yC (putPar_any hO345 T.parser he.p pa pn pc (hI.ps.1.ch (ch_none hA350.ch) iZ) hI.ps.2.1 (by rcases hI.pz with ⟨po, hpo⟩; cases po with | none => exact .inl (by have h := hI.ps.1.1 (by rw [hpo]; rfl); have h2 := hI.ps.2.1; rw [List.map_eq_nil_iff] at h; rw [h] at h2; exact h2.symm) | some b => exact .inr ⟨b, 0, by rw [hpo]; rfl⟩) (fun x hx b f hb e => by have h1 := hA350.new x hx; have h2 := hI.ps.2.2.2 _ hb; have h3 := hI.lt b (hI.inF.2.2.2.2 b h2); omega) (by omega)) ?_)
              rintro _ w358 ⟨og352, ng353, cp354, rfl, hO355, hn356, hA357⟩
              refine ⟨_, rfl, ?_⟩
              have hbn359 := hA357.apart hB351.lt hbn349
              have hA360 := hA350.trans hA357
              refine x_killed ?_
              refine yd [16] [] .z ?_
              refine yDe (nS ?_)
              refine x_ret (yR1 (.slice (og352.map at0) ng353 cp354) ?_)
              refine ⟨_, _, _, rfl, ?_, by omega, hA360.new, ch_none hA360.ch⟩
              have h := hO355
              unfold encI
              unfold backI
              rw [← tabL_f]
              simp only [putsI_cons, putsI_nil, List.append_assoc, List.append_nil, List.nil_append, Int.toNat_natCast] at h ⊢
              have hbl := congrArg List.length hlB
              rw [List.length_map, hLB.len] at hbl
              rw [← hbl]
              exact h
end Go.Proofs.YtclnfbmmaofpjaaDoor.X
namespace Go.Proofs.YtclnfbmmaofpjaaDoor.X
open Go Go.RowKit Go.Proofs.YtclnfbmmaofpjaaDoor
theorem u8_lit {w : World} {b : Nat} {l : List Int} (h : Rd w (some ⟨b, 0, none⟩) (u8s l)) (k : Nat) (hk : k < l.length) : w.cell? ⟨b, k, none⟩ = some (uX (l.getD k 0)) := by
 have := u8_cell h hk
 rwa [Int.toNat_natCast, Nat.mul_one, Nat.zero_add] at this
def fitE : List Int := encI (startT zeroT 2 1)
theorem fitE_ok : 5 ≤ fitE.length ∧ fitE.getD 0 0 = 2 ∧ fitE.getD 3 0 = 1 ∧ fitE.length ≤ 1000 := by decide +kernel
def fitB : Bool := match decT (some fitE) with
  | some T => decide (T.grid.w = 2) && decide (T.grid.lines.length = 1)
  | none => false
theorem fitB_ok : fitB = true := by decide +kernel
theorem fit_dec : ∃ T, decT (some fitE) = some T ∧ T.grid.w = 2 ∧ T.grid.lines.length = 1 := by
 have h := fitB_ok
 unfold fitB at h
 cases e : decT (some fitE) with
 | none => rw [e] at h; cases h
 | some T =>
  rw [e] at h
  simp only [Bool.and_eq_true, decide_eq_true_eq] at h
  exact ⟨T, rfl, h.1, h.2⟩
theorem curB0 : CurB cur0 := ⟨by decide, by decide, by decide⟩
theorem fit_enc : EncOk (startT zeroT 2 1) := by
 have hl : ∀ l ∈ (newG 2 1).lines, l.length ≤ 60 ∧ ∀ c ∈ l, cOk c := by
  have e : (newG 2 1).lines = [[blankC sty0, blankC sty0]] := by kernel_rfl
  rw [e]
  intro l hl
  rw [List.mem_singleton.1 hl]
  refine ⟨by decide, fun c hc => ?_⟩
  have : c = blankC sty0 := by simpa using hc
  rw [this]
  exact ⟨by decide, by decide, by decide⟩
 exact ⟨by decide, by decide, by decide, curB0, curB0, curB0, ⟨by decide, hl⟩, ⟨by decide, hl⟩, ⟨by decide, fun l hl => by cases hl⟩, by decide, by decide, ⟨by decide, by decide, by decide, (fun x hx => by cases hx), by decide, by decide, (fun x hx => by cases hx), by decide⟩⟩
theorem encI_byts {l : List Int} {w : World} {o : Option Nat} {n cap : Nat} (h : Own w tU8 1 o n cap (u8s l)) : l.length = n := by
 have := h.1
 rwa [u8s, List.length_map, Nat.mul_one] at this
theorem fitE_byts : byts fitE := by
 have : fitE.all (fun x => decide (0 ≤ x) && decide (x ≤ 255)) = true := by decide +kernel
 intro x hx
 have := List.all_eq_true.1 this x hx
 simpa using this
set_option maxHeartbeats 4000000 in
theorem fit11_any (w : World) (hT : LT w) (h7 : gTop ≤ w.heap.size) : Calls Tryd.prog 4 [].toArray w fun e w' => e = .returned (.bool true) ∧ Ch (fun _ => False) w w' := by
 refine yA Tryd.func4 rfl <| ysr <| yp 1 [] .z <| ye <| ysr <| yo (yC (tnew_any 2 1 _ (lt_ch (Ch.refl (fun _ => False) w) hT (fun b h => h.elim)) (Nat.le_trans h7 (Ch.size (Ch.refl (fun _ => False) w)))) ?_)
 rintro _ w12 ⟨t, rfl, hA10, hc11⟩
 refine ⟨_, rfl, ?_⟩
 have hq13 : Ch (fun _ => False) w w12 := Ch.trans (Ch.refl (fun _ => False) w) hc11 iZ
 have hAca := hA10
 obtain ⟨ga, qa, baa, bna, bca, paa, pna, pca, F1a, F2a, FBa, FPa, hIa⟩ := hAca
 obtain ⟨r1a, rc1a, rw1a, hG1a⟩ := hIa.g1
 obtain ⟨r2a, rc2a, rw2a, hG2a⟩ := hIa.g2
 refine yp 2 [] .z <| ye <| ys <| ysr <| yp 16 [] (.l (cell_ch (Ch.refl (fun _ => False) w12) (hIa.blk.c 0) id) (.l (cell_ch (Ch.refl (fun _ => False) w12) (hIa.blk.c 1) id) .z)) <| ye <| ycf <| yk <| ysr <| yp 1 [] .z <| yo (yC (encode_any (TermAt.ch hA10 (Ch.refl (fun _ => False) w12) iZ) fit_enc) ?_)
 rintro _ w21 ⟨o14, n15, cap16, rfl, hO17, hn18, hlo19, hc20⟩
 refine ⟨_, rfl, ?_⟩
 have hq22 : Ch (fun _ => False) w w21 := Ch.trans hq13 hc20 iZ
 have hq23 : Ch (fun _ => False) w12 w21 := Ch.trans (Ch.refl (fun _ => False) w12) hc20 iZ
 have hel : fitE.length = n15 := encI_byts hO17
 obtain ⟨ob, rfl⟩ := own_someC hO17 (by have := fitE_ok.1; omega)
 have hnc0 : n15 ≤ cap16 := hO17.2.1
 obtain ⟨hf1, hf2, hf3, hf4⟩ := fitE_ok
 refine yp 3 [] .z <| ye <| ys <| ysr <| yp 4 [] .z <| yw [27] (rL ((n15 : Nat) : Int) 5) (fun hC24 => ?_) fun hC24 => ?_
 ·have hf25 := hC24
  exfalso; omega
 have hf26 := hC24
 refine yp 10 [] (.i 0 (n15) (.l (o := 0) (cell_ch (Ch.refl (fun _ => False) w21) (u8_lit (l := fitE) (Own.rd hO17) 0 (by omega)) id) .z)) <| yw [33] (rI (fitE.getD 0 0) 2) (fun hC27 => ?_) fun hC27 => ?_
 ·have hf28 := hC27
  exfalso; omega
 have hf29 := hC27
 refine yp 15 [] (.i 3 (n15) (.l (o := 3) (cell_ch (Ch.refl (fun _ => False) w21) (u8_lit (l := fitE) (Own.rd hO17) 3 (by omega)) id) .z)) <| ye <| yc (rI (fitE.getD 3 0) 1) (fun hC30 => ?_) fun hC30 => ?_
 ·have hf31 := hC30
  exfalso; omega
 have hf32 := hC30
 refine yk <| ysr <| yp 1 [] .z ?_
 obtain ⟨TD, hXd, hDw, hDl⟩ := fit_dec
 refine yo (yC (decode_any ob (some ⟨ob, 0, none⟩) n15 cap16 fitE (some TD) _ (lt_ch hq22 hT (fun b h => h.elim)) (Nat.le_trans h7 (Ch.size hq22)) (Ch.rd (Ch.refl (fun _ => False) w21) (Own.rd hO17) id) hel hnc0 (.inr ⟨0, rfl⟩) fitE_byts (by omega) (Nat.lt_of_lt_of_le hO17.lt (Ch.size (Ch.refl (fun _ => False) w21))) hXd) ?_)
 rintro _ w34 ⟨vd, xd, rfl, hc33, hdd⟩
 refine ⟨_, rfl, ?_⟩
 have hq35 : Ch (fun _ => False) w w34 := Ch.trans hq22 hc33 iZ
 have hq36 : Ch (fun _ => False) w12 w34 := Ch.trans hq23 hc33 iZ
 have hq37 : Ch (fun _ => False) w21 w34 := Ch.trans (Ch.refl (fun _ => False) w21) hc33 iZ
 obtain ⟨u, TU, hTU, rfl, rfl, hAu⟩ := hdd.resolve_left (fun h => by cases h.1)
 obtain rfl := Option.some.inj hTU
 have hAcb := hAu
 obtain ⟨gb, qb, bab, bnb, bcb, pab, pnb, pcb, F1b, F2b, FBb, FPb, hIb⟩ := hAcb
 obtain ⟨r1b, rc1b, rw1b, hG1b⟩ := hIb.g1
 obtain ⟨r2b, rc2b, rw2b, hG2b⟩ := hIb.g2
 refine yp 7 [] .z <| ye <| ysr <| yp 31 [] (.l (cell_ch (Ch.refl (fun _ => False) w34) (hIb.blk.c 0) id) (.l (cell_ch (Ch.refl (fun _ => False) w34) (hIb.blk.c 1) id) (.l (cell_ch (Ch.refl (fun _ => False) w34) (hIb.blk.c 0) id) (.l (cell_ch (Ch.refl (fun _ => False) w34) (hG1b.head.c 0) id) .z)))) <| yw [74] (rE TD.grid.w 2) (fun hC38 => ?_) fun hC38 => ?_
 ·have hf39 := hC38
  refine yp 42 [] (.l (cell_ch (Ch.refl (fun _ => False) w34) (hIb.blk.c 0) id) (.l (cell_ch (Ch.refl (fun _ => False) w34) (hG1b.head.c 2) id) .z)) <| ye <| x_ret (yR1 (.bool ((((rw1b.length : Nat) : Int) : Int) == 1)) ?_)
  have h1 := congrArg List.length hG1b.lines
  rw [List.length_map] at h1
  refine ⟨congrArg Ending.returned (congrArg Value.bool ?_), hq35⟩
  first | rfl | (rw [beq_iff_eq]; omega)
 have hf40 := hC38
 exfalso; first | omega | (have h1 := hG1b.lines; have h2 := congrArg List.length h1; rw [List.length_map] at h2; omega)
theorem par_z {w : World} {t g o : Nat} {ba : Option Addr} {bn bc : Nat} {pa : Option Addr} {pn pc : Nat} {T : TS} {F F1 F2 FB FP : Nat → Prop} (hI : TermIn w t g o ba bn bc pa pn pc T F F1 F2 FB FP) : pn = 0 ∨ ∃ b f, pa = some ⟨b, f, none⟩ := by
 rcases hI.pz with ⟨po, hpo⟩
 cases po with
 | none =>
  have h := hI.ps.1.1 (by rw [hpo]; rfl)
  have h2 := hI.ps.2.1
  rw [List.map_eq_nil_iff] at h
  rw [h] at h2
  exact .inl h2.symm
 | some b => exact .inr ⟨b, 0, by rw [hpo]; rfl⟩
set_option maxHeartbeats 4000000 in
theorem any_any (D : Nat) (a : Option Addr) (n cap : Nat) (us : List Int) (w : World) (hT : LT w) (h7 : gTop ≤ w.heap.size) (hr : Rd w a (u8s us)) (hl : us.length = n) (hle : n ≤ cap) (hz : (n = 0 ∧ cap = 0) ∨ ∃ o, a = some ⟨D, o, none⟩) (hb : byts us) (hD : D < w.heap.size) (hmx : cap ≤ maxLen) : Calls Tryd.prog 3 [.slice a n cap].toArray w fun e w' => e = .returned (.bool true) ∧ Ch (fun _ => False) w w' := by
 simp only [maxLen] at hmx
 refine yA Tryd.func3 rfl <| ysr <| yp 1 [] .z <| ye <| ys <| ysr <| yo (yQ (fit11_any _ (lt_ch (Ch.refl (fun _ => False) w) hT (fun b h => h.elim)) (Nat.le_trans h7 (Ch.size (Ch.refl (fun _ => False) w)))) fun w11 hc10 => ?_)
 have hq12 : Ch (fun _ => False) w w11 := Ch.trans (Ch.refl (fun _ => False) w) hc10 iZ
 refine yp 2 [] .z <| ye <| ycf <| yk <| ys <| ysr <| yp 3 [] .z <| ye <| yc (rL 3000 ((n : Nat) : Int)) (fun hC13 => ?_) fun hC13 => ?_
 ·have hf14 := hC13
  refine ysr <| yp 1 [] .z <| ye <| x_ret (rS (yR1 (.bool true) ?_))
  exact ⟨rfl, hq12⟩
 have hf15 := hC13
 refine yk <| ysr <| yp 1 [] .z <| yo (yC (decode_any D a n cap us _ _ (lt_ch hq12 hT (fun b h => h.elim)) (Nat.le_trans h7 (Ch.size hq12)) (hr.ch hq12 iZ) hl hle hz hb (by omega) (Nat.lt_of_lt_of_le hD (Ch.size hq12)) rfl) ?_)
 rintro _ w17 ⟨vd, xd, rfl, hc16, hdd⟩
 refine ⟨_, rfl, ?_⟩
 have hq18 : Ch (fun _ => False) w w17 := Ch.trans hq12 hc16 iZ
 rcases hdd with ⟨hot, rfl, rfl⟩ | ⟨t, T, hot, rfl, rfl, hAt0⟩
 ·refine yp 7 [] .z <| ye <| ys <| ysr <| yp 2 [] .z <| ye <| yct <| ysr <| yp 7 [] .z <| ye <| x_ret (rS (yR1 (.bool true) ?_))
  exact ⟨rfl, hq18⟩
 obtain ⟨us2, hu1, hu2, hDk⟩ := decT_some (fun x hx => by cases hx; exact hb) hot
 obtain rfl := Option.some.inj hu1
 obtain ⟨hdw, hdh, hdo, hdt, hdc, hds, hda, hdg, hdg2, hdk, hdti, hdr, hdp⟩ := hDk
 have hDk : DecOk T := ⟨hdw, hdh, hdo, hdt, hdc, hds, hda, hdg, hdg2, hdk, hdti, hdr, hdp⟩
 obtain ⟨hdow, hdoh⟩ := hdo
 have hAc := hAt0
 obtain ⟨g, q, ba, bn, bc, pa, pn, pc, F1, F2, FB, FP, hI⟩ := hAc
 obtain ⟨r1, rc1, rw1, hG1⟩ := hI.g1
 obtain ⟨r2, rc2, rw2, hG2⟩ := hI.g2
 have hl1 := congrArg List.length hG1.lines
 rw [List.length_map] at hl1
 have hl2 := congrArg List.length hG2.lines
 rw [List.length_map] at hl2
 have hg0 := hdg.1
 have hg20 := hdg2.1
 refine yp 7 [] .z <| ye <| ys <| ysr <| yp 2 [] .z <| ye <| ycf <| yk <| ys <| ys <| yD [115] fun w19 hH20 hc21 => ?_
 have hq22 : Ch (fun _ => False) w w19 := Ch.trans hq18 hc21 iZ
 have hq23 : Ch (fun _ => False) w17 w19 := Ch.trans (Ch.refl (fun _ => False) w17) hc21 iZ
 refine x_gfree (by kernel_rfl) (fun hfr24 => ?_)
 refine yg hfr24 (uL 0 13) [] (.l (cell_ch hq23 (hI.blk.c 0) id) (.l (cell_ch hq23 (hG1.head.c 0) id) .z)) <| yv [38] (rL T.grid.w 1) (fun hC25 => ?_) fun hC25 => ?_
 ·have hf26 := hC25
  exfalso; omega
 have hf27 := hC25
 refine yg hfr24 (uL 13 10) [] (.l (cell_ch hq23 (hI.blk.c 0) id) (.l (cell_ch hq23 (hG1.head.c 0) id) .z)) <| yv [48] (rL 60 T.grid.w) (fun hC28 => ?_) fun hC28 => ?_
 ·have hf29 := hC28
  exfalso; omega
 have hf30 := hC28
 refine yg hfr24 (uL 23 10) [] (.l (cell_ch hq23 (hI.blk.c 0) id) (.l (cell_ch hq23 (hG1.head.c 1) id) .z)) <| yv [58] (rL T.grid.h 1) (fun hC31 => ?_) fun hC31 => ?_
 ·have hf32 := hC31
  exfalso; omega
 have hf33 := hC31
 refine yg hfr24 (uL 33 10) [] (.l (cell_ch hq23 (hI.blk.c 0) id) (.l (cell_ch hq23 (hG1.head.c 1) id) .z)) <| yv [68] (rL 60 T.grid.h) (fun hC34 => ?_) fun hC34 => ?_
 ·have hf35 := hC34
  exfalso; omega
 have hf36 := hC34
 refine yg hfr24 (uL 43 7) [] (.l (cell_ch hq23 (hI.blk.c 26) id) .z) <| yv [75] (rL T.top 0) (fun hC37 => ?_) fun hC37 => ?_
 ·have hf38 := hC37
  exfalso; omega
 have hf39 := hC37
 refine yg hfr24 (uL 50 11) [] (.l (cell_ch hq23 (hI.blk.c 26) id) (.l (cell_ch hq23 (hI.blk.c 27) id) .z)) <| yv [86] (rM T.bot T.top) (fun hC40 => ?_) fun hC40 => ?_
 ·have hf41 := hC40
  exfalso; omega
 have hf42 := hC40
 refine yg hfr24 (uL 61 14) [] (.l (cell_ch hq23 (hI.blk.c 27) id) (.l (cell_ch hq23 (hI.blk.c 0) id) (.l (cell_ch hq23 (hG1.head.c 1) id) .z))) <| yv [100] (rL T.grid.h T.bot) (fun hC43 => ?_) fun hC43 => ?_
 ·have hf44 := hC43
  exfalso; omega
 have hf45 := hC43
 refine yg hfr24 (uL 75 18) [] (.l (cell_ch hq23 (hI.blk.c 0) id) (.l (cell_ch hq23 (hG1.head.c 2) id) (.l (cell_ch hq23 (hI.blk.c 0) id) (.l (cell_ch hq23 (hG1.head.c 1) id) .z)))) <| yv [118] (rI ((rw1.length : Nat) : Int) T.grid.h) (fun hC46 => ?_) fun hC46 => ?_
 ·have hf47 := hC46
  exfalso; omega
 have hf48 := hC46
 refine yg hfr24 (uL 93 18) [] (.l (cell_ch hq23 (hI.blk.c 1) id) (.l (cell_ch hq23 (hG2.head.c 2) id) (.l (cell_ch hq23 (hI.blk.c 0) id) (.l (cell_ch hq23 (hG1.head.c 1) id) .z)))) <| dkeep [0, 3, 136] (f' := [(0, .slice a n cap), (3, pX t), (136, .bool ((((rw2.length : Nat) : Int) : Int) != T.grid.h))]) <| yv [136] (rI ((rw2.length : Nat) : Int) T.grid.h) (fun hC49 => ?_) fun hC49 => ?_
 ·have hf50 := hC49
  exfalso; omega
 have hf51 := hC49
 refine yg hfr24 (uL 111 4) [] (.a (cellsC_ch hq23 (hI.blk.cs 98 9) id) .z) <| yK 115 (yQ (rightE T.parser pa pn pc _ (lt_ch hq22 hT (fun b h => h.elim)).ut hdp.u (hI.ps.1.ch hq23 iZ) hI.ps.2.1 (par_z hI) (by have := hI.ps.2.1; have := hdp.n; omega) (by have := hdp.t; omega)) fun w53 hc52 => ?_)
 have hq54 : Ch (fun _ => False) w w53 := Ch.trans hq22 hc52 iZ
 have hq55 : Ch (fun _ => False) w17 w53 := Ch.trans hq23 hc52 iZ
 refine x_killed <| yg hfr24 [116, 117] [] .z <| yGe (nS ?_)
 refine yc (rN (rY (prightB T.parser))) (fun hC56 => ?_) fun hC56 => ?_
 ·have hf57 := hC56
  exact absurd hf57 (by rw [hdp.r]; decide)
 have hf58 := hC56
 refine yk <| ys <| ys <| yD [12] fun w59 hH60 hc61 => ?_
 have hq62 : Ch (fun _ => False) w w59 := Ch.trans hq54 hc61 iZ
 have hq63 : Ch (fun _ => False) w17 w59 := Ch.trans hq55 hc61 iZ
 refine yd [0, 1, 2, 3, 4, 5, 6, 7, 8, 9, 10, 11, 14] [] (.a (cellsC_ch hq63 (hI.blk.cs 2 8) id) (.a (cellsC_ch hq63 (hI.blk.cs 10 8) id) (.a (cellsC_ch hq63 (hI.blk.cs 18 8) id) .z))) <| yK 12 (yB [iX T.cursor.x, iX T.cursor.y, .bool T.cursor.late, .bool T.cursor.sty.bold, .bool T.cursor.sty.under, .bool T.cursor.sty.turned, iX T.cursor.sty.fore, iX T.cursor.sty.back, iX T.saved.x, iX T.saved.y, .bool T.saved.late, .bool T.saved.sty.bold, .bool T.saved.sty.under, .bool T.saved.sty.turned, iX T.saved.sty.fore, iX T.saved.sty.back, iX T.away.x, iX T.away.y, .bool T.away.late, .bool T.away.sty.bold, .bool T.away.sty.under, .bool T.away.sty.turned, iX T.away.sty.fore, iX T.away.sty.back] 32 3 fun w64 b65 hb66 hz67 hB68 hc69 => ?_)
 have hlo70 : w.heap.size ≤ b65 := by rw [hb66]; exact Ch.size hq62
 have hlo71 : w17.heap.size ≤ b65 := by rw [hb66]; exact Ch.size hq63
 have hq72 : Ch (fun _ => False) w w64 := Ch.trans hq62 hc69 iZ
 have hq73 : Ch (fun _ => False) w17 w64 := Ch.trans hq63 hc69 iZ
 refine x_killed <| yd [13] [] .z <| yDe (nS ?_)
 refine x_block <| yU 4 (yU1 ?_)
 refine ysr <| yp 1 [] .z <| ye <| ys <| yct <| yk <| ys <| x_block <| ysr <| yp 2 [] (.i 0 (3) (.a (hB68.cs 0 8) .z)) <| yo (yN [iX 0, iX 0, .bool false, .bool false, .bool false, .bool false, iX 0, iX 0] 32 fun w74 b75 hb76 hz77 hB78 hc79 => ?_)
 have hlo80 : w.heap.size ≤ b75 := by rw [hb76]; exact Ch.size hq72
 have hlo81 : w17.heap.size ≤ b75 := by rw [hb76]; exact Ch.size hq73
 have hq82 : Ch (fun _ => False) w w74 := Ch.trans hq72 hc79 iZ
 have hq83 : Ch (fun _ => False) w17 w74 := Ch.trans hq73 hc79 iZ
 have hB84 := hB68.ch hc79 id
 refine yo (yS hB78 fun w85 hB86 hc87 => ?_)
 have hq88 : Ch (fun _ => False) w w85 := Ch.trans hq82 hc87 (fun i hi (h : i = b75) => by have := hlo80; omega)
 have hq89 : Ch (fun _ => False) w17 w85 := Ch.trans hq83 hc87 (fun i hi (h : i = b75) => by have := hlo81; omega)
 have hB90 := hB84.ch hc87 (fun (h : b65 = b75) => by have := hB68.lt; omega)
 replace hB86 : Blk w85 b75 [iX T.cursor.x, iX T.cursor.y, .bool T.cursor.late, .bool T.cursor.sty.bold, .bool T.cursor.sty.under, .bool T.cursor.sty.turned, iX T.cursor.sty.fore, iX T.cursor.sty.back] _ := Blk.to hB86 (by kernel_rfl)
 refine ye <| ys <| yD [52] fun w91 hH92 hc93 => ?_
 have hq94 : Ch (fun _ => False) w w91 := Ch.trans hq88 hc93 iZ
 have hq95 : Ch (fun _ => False) w17 w91 := Ch.trans hq89 hc93 iZ
 have hB96 := hB90.ch hc93 id
 have hB97 := hB86.ch hc93 id
 refine x_gfree (by kernel_rfl) (fun hfr98 => ?_)
 refine yg hfr98 (uL 0 4) [] (.l (hB97.c 0) .z) <| yv [165] (rL T.cursor.x 0) (fun hC99 => ?_) fun hC99 => ?_
 ·have hf100 := hC99
  exfalso; have h8 := hdc.x; have h9 := hdc.y; omega
 have hf101 := hC99
 refine yg hfr98 (uL 4 12) [] (.l (hB97.c 0) (.l (cell_ch hq95 (hI.blk.c 0) id) (.l (cell_ch hq95 (hG1.head.c 0) id) .z))) <| yv [177] (rM T.grid.w T.cursor.x) (fun hC102 => ?_) fun hC102 => ?_
 ·have hf103 := hC102
  exfalso; have h8 := hdc.x; have h9 := hdc.y; omega
 have hf104 := hC102
 refine yg hfr98 (uL 16 5) [] (.l (hB97.c 1) .z) <| yv [182] (rL T.cursor.y 0) (fun hC105 => ?_) fun hC105 => ?_
 ·have hf106 := hC105
  exfalso; have h8 := hdc.x; have h9 := hdc.y; omega
 have hf107 := hC105
 refine yg hfr98 (uL 21 12) [] (.l (hB97.c 1) (.l (cell_ch hq95 (hI.blk.c 0) id) (.l (cell_ch hq95 (hG1.head.c 1) id) .z))) <| yv [194] (rM T.grid.h T.cursor.y) (fun hC108 => ?_) fun hC108 => ?_
 ·have hf109 := hC108
  exfalso; have h8 := hdc.x; have h9 := hdc.y; omega
 have hf110 := hC108
 refine yg hfr98 (uL 33 3) [] (.l (hB97.c 2) .z) <| yv [197] (rY T.cursor.late) (fun hC111 => ?_) fun hC111 => ?_
 ·have hf112 := hC111
  refine yg hfr98 (uL 36 14) [] (.l (hB97.c 0) (.l (cell_ch hq95 (hI.blk.c 0) id) (.l (cell_ch hq95 (hG1.head.c 0) id) (.q6 (T.grid.w - 1) .z)))) <| yv [211] (rI T.cursor.x (T.grid.w - 1)) (fun hC113 => ?_) fun hC113 => ?_
  ·have hf114 := hC113
   exfalso; have h9 := hdc.l (by assumption); omega
  have hf115 := hC113
  refine yg hfr98 [50, 51] [] (.a (hB97.cs 3 5) .z) <| yK 52 (yQ (style_any T.cursor.sty _) fun w117 hc116 => ?_)
  have hq118 : Ch (fun _ => False) w w117 := Ch.trans hq94 hc116 iZ
  have hq119 : Ch (fun _ => False) w17 w117 := Ch.trans hq95 hc116 iZ
  have hB120 := hB96.ch hc116 id
  refine x_killed <| yg hfr98 [53, 54] [] .z <| yGe (nS ?_)
  refine yc (rN (rY (styleB T.cursor.sty))) (fun hC122 => ?_) fun hC122 => ?_
  ·have hf123 := hC122
   exact absurd hf123 (by rw [hdc.s]; decide)
  have hf124 := hC122
  refine x_skip (nB (nS ?_))
  refine x_region <| yp 2 [] (.q6 1 .z) <| yE (nU (yU1 ?_))
  refine ysr <| yp 1 [] .z <| ye <| ys <| yct <| yk <| ys <| x_block <| ysr <| yp 2 [] (.i 1 (3) (.a (hB120.cs 8 8) .z)) <| yo (yN [iX 0, iX 0, .bool false, .bool false, .bool false, .bool false, iX 0, iX 0] 32 fun w125 b126 hb127 hz128 hB129 hc130 => ?_)
  have hlo131 : w.heap.size ≤ b126 := by rw [hb127]; exact Ch.size hq118
  have hlo132 : w17.heap.size ≤ b126 := by rw [hb127]; exact Ch.size hq119
  have hq133 : Ch (fun _ => False) w w125 := Ch.trans hq118 hc130 iZ
  have hq134 : Ch (fun _ => False) w17 w125 := Ch.trans hq119 hc130 iZ
  have hB135 := hB120.ch hc130 id
  refine yo (yS hB129 fun w137 hB138 hc139 => ?_)
  have hq140 : Ch (fun _ => False) w w137 := Ch.trans hq133 hc139 (fun i hi (h : i = b126) => by have := hlo131; omega)
  have hq141 : Ch (fun _ => False) w17 w137 := Ch.trans hq134 hc139 (fun i hi (h : i = b126) => by have := hlo132; omega)
  have hB142 := hB135.ch hc139 (fun (h : b65 = b126) => by have := hB120.lt; omega)
  replace hB138 : Blk w137 b126 [iX T.saved.x, iX T.saved.y, .bool T.saved.late, .bool T.saved.sty.bold, .bool T.saved.sty.under, .bool T.saved.sty.turned, iX T.saved.sty.fore, iX T.saved.sty.back] _ := Blk.to hB138 (by kernel_rfl)
  refine ye <| ys <| yD [52] fun w144 hH145 hc146 => ?_
  have hq147 : Ch (fun _ => False) w w144 := Ch.trans hq140 hc146 iZ
  have hq148 : Ch (fun _ => False) w17 w144 := Ch.trans hq141 hc146 iZ
  have hB149 := hB142.ch hc146 id
  have hB151 := hB138.ch hc146 id
  refine x_gfree (by kernel_rfl) (fun hfr152 => ?_)
  refine yg hfr152 (uL 0 4) [] (.l (hB151.c 0) .z) <| yv [165] (rL T.saved.x 0) (fun hC153 => ?_) fun hC153 => ?_
  ·have hf154 := hC153
   exfalso; have h8 := hds.x; have h9 := hds.y; omega
  have hf155 := hC153
  refine yg hfr152 (uL 4 12) [] (.l (hB151.c 0) (.l (cell_ch hq148 (hI.blk.c 0) id) (.l (cell_ch hq148 (hG1.head.c 0) id) .z))) <| yv [177] (rM T.grid.w T.saved.x) (fun hC156 => ?_) fun hC156 => ?_
  ·have hf157 := hC156
   exfalso; have h8 := hds.x; have h9 := hds.y; omega
  have hf158 := hC156
  refine yg hfr152 (uL 16 5) [] (.l (hB151.c 1) .z) <| yv [182] (rL T.saved.y 0) (fun hC159 => ?_) fun hC159 => ?_
  ·have hf160 := hC159
   exfalso; have h8 := hds.x; have h9 := hds.y; omega
  have hf161 := hC159
  refine yg hfr152 (uL 21 12) [] (.l (hB151.c 1) (.l (cell_ch hq148 (hI.blk.c 0) id) (.l (cell_ch hq148 (hG1.head.c 1) id) .z))) <| yv [194] (rM T.grid.h T.saved.y) (fun hC162 => ?_) fun hC162 => ?_
  ·have hf163 := hC162
   exfalso; have h8 := hds.x; have h9 := hds.y; omega
  have hf164 := hC162
  refine yg hfr152 (uL 33 3) [] (.l (hB151.c 2) .z) <| yv [197] (rY T.saved.late) (fun hC165 => ?_) fun hC165 => ?_
  ·have hf166 := hC165
   refine yg hfr152 (uL 36 14) [] (.l (hB151.c 0) (.l (cell_ch hq148 (hI.blk.c 0) id) (.l (cell_ch hq148 (hG1.head.c 0) id) (.q6 (T.grid.w - 1) .z)))) <| dkeep [0, 3, 6, 156, 157, 158, 211] (f' := [(0, .slice a n cap), (3, pX t), (6, pX b126), (156, .slice (some ⟨b65, 0, none⟩) 3 3), (157, iX 3), (158, iX 1), (211, .bool ((T.saved.x : Int) != (T.grid.w - 1)))]) <| yv [211] (rI T.saved.x (T.grid.w - 1)) (fun hC167 => ?_) fun hC167 => ?_
   ·have hf168 := hC167
    exfalso; have h9 := hds.l (by assumption); omega
   have hf169 := hC167
   refine yg hfr152 [50, 51] [] (.a (hB151.cs 3 5) .z) <| yK 52 (yQ (style_any T.saved.sty _) fun w171 hc170 => ?_)
   have hq172 : Ch (fun _ => False) w w171 := Ch.trans hq147 hc170 iZ
   have hq173 : Ch (fun _ => False) w17 w171 := Ch.trans hq148 hc170 iZ
   have hB174 := hB149.ch hc170 id
   refine x_killed <| yg hfr152 [53, 54] [] .z <| yGe (nS ?_)
   refine yc (rN (rY (styleB T.saved.sty))) (fun hC177 => ?_) fun hC177 => ?_
   ·have hf178 := hC177
    exact absurd hf178 (by rw [hds.s]; decide)
   have hf179 := hC177
   refine x_skip (nB (nS ?_))
   refine x_region <| yp 2 [] (.q6 2 .z) <| yE (nU (yU1 ?_))
   refine ysr <| yp 1 [] .z <| ye <| ys <| yct <| yk <| ys <| x_block <| ysr <| yp 2 [] (.i 2 (3) (.a (hB174.cs 16 8) .z)) <| yo (yN [iX 0, iX 0, .bool false, .bool false, .bool false, .bool false, iX 0, iX 0] 32 fun w180 b181 hb182 hz183 hB184 hc185 => ?_)
   have hlo186 : w.heap.size ≤ b181 := by rw [hb182]; exact Ch.size hq172
   have hlo187 : w17.heap.size ≤ b181 := by rw [hb182]; exact Ch.size hq173
   have hq188 : Ch (fun _ => False) w w180 := Ch.trans hq172 hc185 iZ
   have hq189 : Ch (fun _ => False) w17 w180 := Ch.trans hq173 hc185 iZ
   refine yo (yS hB184 fun w193 hB194 hc195 => ?_)
   have hq196 : Ch (fun _ => False) w w193 := Ch.trans hq188 hc195 (fun i hi (h : i = b181) => by have := hlo186; omega)
   have hq197 : Ch (fun _ => False) w17 w193 := Ch.trans hq189 hc195 (fun i hi (h : i = b181) => by have := hlo187; omega)
   replace hB194 : Blk w193 b181 [iX T.away.x, iX T.away.y, .bool T.away.late, .bool T.away.sty.bold, .bool T.away.sty.under, .bool T.away.sty.turned, iX T.away.sty.fore, iX T.away.sty.back] _ := Blk.to hB194 (by kernel_rfl)
   refine ye <| ys <| yD [52] fun w201 hH202 hc203 => ?_
   have hq204 : Ch (fun _ => False) w w201 := Ch.trans hq196 hc203 iZ
   have hq205 : Ch (fun _ => False) w17 w201 := Ch.trans hq197 hc203 iZ
   have hB209 := hB194.ch hc203 id
   refine x_gfree (by kernel_rfl) (fun hfr210 => ?_)
   refine yg hfr210 (uL 0 4) [] (.l (hB209.c 0) .z) <| yv [165] (rL T.away.x 0) (fun hC211 => ?_) fun hC211 => ?_
   ·have hf212 := hC211
    exfalso; have h8 := hda.x; have h9 := hda.y; omega
   have hf213 := hC211
   refine yg hfr210 (uL 4 12) [] (.l (hB209.c 0) (.l (cell_ch hq205 (hI.blk.c 0) id) (.l (cell_ch hq205 (hG1.head.c 0) id) .z))) <| yv [177] (rM T.grid.w T.away.x) (fun hC214 => ?_) fun hC214 => ?_
   ·have hf215 := hC214
    exfalso; have h8 := hda.x; have h9 := hda.y; omega
   have hf216 := hC214
   refine yg hfr210 (uL 16 5) [] (.l (hB209.c 1) .z) <| yv [182] (rL T.away.y 0) (fun hC217 => ?_) fun hC217 => ?_
   ·have hf218 := hC217
    exfalso; have h8 := hda.x; have h9 := hda.y; omega
   have hf219 := hC217
   refine yg hfr210 (uL 21 12) [] (.l (hB209.c 1) (.l (cell_ch hq205 (hI.blk.c 0) id) (.l (cell_ch hq205 (hG1.head.c 1) id) .z))) <| yv [194] (rM T.grid.h T.away.y) (fun hC220 => ?_) fun hC220 => ?_
   ·have hf221 := hC220
    exfalso; have h8 := hda.x; have h9 := hda.y; omega
   have hf222 := hC220
   refine yg hfr210 (uL 33 3) [] (.l (hB209.c 2) .z) <| yv [197] (rY T.away.late) (fun hC223 => ?_) fun hC223 => ?_
   ·have hf224 := hC223
    refine yg hfr210 (uL 36 14) [] (.l (hB209.c 0) (.l (cell_ch hq205 (hI.blk.c 0) id) (.l (cell_ch hq205 (hG1.head.c 0) id) (.q6 (T.grid.w - 1) .z)))) <| yv [211] (rI T.away.x (T.grid.w - 1)) (fun hC225 => ?_) fun hC225 => ?_
    ·have hf226 := hC225
     exfalso; have h9 := hda.l (by assumption); omega
    have hf227 := hC225
    refine yg hfr210 [50, 51] [] (.a (hB209.cs 3 5) .z) <| yK 52 (yQ (style_any T.away.sty _) fun w229 hc228 => ?_)
    have hq230 : Ch (fun _ => False) w w229 := Ch.trans hq204 hc228 iZ
    have hq231 : Ch (fun _ => False) w17 w229 := Ch.trans hq205 hc228 iZ
    refine x_killed <| yg hfr210 [53, 54] [] .z <| yGe (nS ?_)
    refine yc (rN (rY (styleB T.away.sty))) (fun hC236 => ?_) fun hC236 => ?_
    ·have hf237 := hC236
     exact absurd hf237 (by rw [hda.s]; decide)
    have hf238 := hC236
    refine x_skip (nB (nS ?_))
    refine x_region <| yp 2 [] (.q6 3 .z) <| yE (nU (yU1 ?_))
    refine ysr <| yp 1 [] .z <| ye <| ys <| ycf <| x_exit (eS (then_exit (block_exit (nS ?_))))
    refine ys <| ysr <| yp 8 [] (.l (cell_ch hq231 (hI.blk.c 0) id) (.l (cell_ch hq231 (hG1.head.c 1) id) .z)) <| ye <| x_block <| ykeep [0, 3, 224, 225] (f' := [(0, .slice a n cap), (3, pX t), (224, iX T.grid.h), (225, iX 0)]) <| x_loop (σ := Nat) (fun k => [(0, .slice a n cap), (3, pX t), (224, iX T.grid.h), (225, iX ((k : Nat) : Int))]) (fun k u => k ≤ T.grid.h.toNat ∧ Ch (fun _ => False) w229 u) (fun k => T.grid.h.toNat - k) 0 rfl ?_ ?_
    ·exact ⟨Nat.zero_le _, Ch.refl _ _⟩
    intro k w239 hI240 K241 hL242
    obtain ⟨hk, hc243⟩ := hI240
    have hq244 : Ch (fun _ => False) w w239 := Ch.trans hq230 hc243 iZ
    have hq245 : Ch (fun _ => False) w17 w239 := Ch.trans hq231 hc243 iZ
    refine ysr <| yp 1 [] .z <| ye <| ys <| yc (rL ((k : Nat) : Int) T.grid.h) (fun hC246 => ?_) fun hC246 => ?_
    ·have hf247 := hC246
     obtain ⟨qa, hqa, hqam⟩ := rows_at (rows := rw1) (k := k) (by omega)
     obtain ⟨qb, hqb, hqbm⟩ := rows_at (rows := rw2) (k := k) (by omega)
     obtain ⟨hqa1, hqa2, _⟩ := hdg.2 qa.l (by rw [← hG1.lines]; exact List.mem_map_of_mem hqam)
     obtain ⟨hqb1, hqb2, _⟩ := hdg2.2 qb.l (by rw [← hG2.lines]; exact List.mem_map_of_mem hqbm)
     have hqan := (hG1.line qa hqam).2
     have hqbn := (hG2.line qb hqbm).2
     refine yk <| ys <| x_block <| ysr <| yp 2 [] .z <| ye <| ys <| yD [51, 65] fun w248 hH249 hc250 => ?_
     have hq251 : Ch (fun _ => False) w w248 := Ch.trans hq244 hc250 iZ
     have hq252 : Ch (fun _ => False) w17 w248 := Ch.trans hq245 hc250 iZ
     have hq253 : Ch (fun _ => False) w239 w248 := Ch.trans (Ch.refl (fun _ => False) w239) hc250 iZ
     refine x_gfree (by kernel_rfl) (fun hfr254 => ?_)
     refine yg hfr254 (uL 0 20) [] (.l (cell_ch hq252 (hI.blk.c 0) id) (.l (cell_ch hq252 (hG1.head.c 2) id) (.i ((k : Nat) : Int) (rw1.length) (.l (ln_cell (Ch.rd hq252 hG1.body.rd id) hqa) (.l (cell_ch hq252 (hI.blk.c 0) id) (.l (cell_ch hq252 (hG1.head.c 0) id) .z)))))) <| yv [247] (rI ((qa.n : Nat) : Int) T.grid.w) (fun hC255 => ?_) fun hC255 => ?_
     ·have hf256 := hC255
      exfalso; omega
     have hf257 := hC255
     refine yg hfr254 (uL 20 21) [] (.l (cell_ch hq252 (hI.blk.c 1) id) (.l (cell_ch hq252 (hG2.head.c 2) id) (.i ((k : Nat) : Int) (rw2.length) (.l (ln_cell (Ch.rd hq252 hG2.body.rd id) hqb) (.l (cell_ch hq252 (hI.blk.c 0) id) (.l (cell_ch hq252 (hG1.head.c 0) id) .z)))))) <| yv [268] (rI ((qb.n : Nat) : Int) T.grid.w) (fun hC258 => ?_) fun hC258 => ?_
     ·have hf259 := hC258
      exfalso; omega
     have hf260 := hC258
     refine yg hfr254 (uL 41 10) [] (.l (cell_ch hq252 (hI.blk.c 0) id) (.l (cell_ch hq252 (hG1.head.c 2) id) (.i ((k : Nat) : Int) (rw1.length) (.l (ln_cell (Ch.rd hq252 hG1.body.rd id) hqa) .z)))) <| dkeep [0, 3, 7, 224, 225, 268, 278] (f' := [(0, .slice a n cap), (3, pX t), (7, iX ((k : Nat) : Int)), (224, iX T.grid.h), (225, iX ((k : Nat) : Int)), (268, .bool false), (278, .slice (some ⟨qa.b, 0, none⟩) qa.n qa.cap)]) <| yK 51 (yQ (whole_any qa.b qa.n qa.cap qa.l _ (lt_ch hq251 hT (fun b h => h.elim)).tb (Ch.rd hq252 (hG1.line qa hqam).1.rd id) (Nat.lt_of_lt_of_le (hG1.line qa hqam).1.lt (Ch.size hq252)) (hG1.line qa hqam).2 (by omega)) fun w262 hc261 => ?_)
     have hq263 : Ch (fun _ => False) w w262 := Ch.trans hq251 hc261 iZ
     have hq264 : Ch (fun _ => False) w17 w262 := Ch.trans hq252 hc261 iZ
     have hq265 : Ch (fun _ => False) w239 w262 := Ch.trans hq253 hc261 iZ
     refine x_killed <| yg hfr254 (uL 52 3) [] .z <| yv [282] (rN (rY (wholeB qa.l))) (fun hC266 => ?_) fun hC266 => ?_
     ·have hf267 := hC266
      exact absurd hf267 (by rw [hqa2]; decide)
     have hf268 := hC266
     refine yg hfr254 (uL 55 10) [] (.l (cell_ch hq264 (hI.blk.c 1) id) (.l (cell_ch hq264 (hG2.head.c 2) id) (.i ((k : Nat) : Int) (rw2.length) (.l (ln_cell (Ch.rd hq264 hG2.body.rd id) hqb) .z)))) <| yK 65 (yQ (whole_any qb.b qb.n qb.cap qb.l _ (lt_ch hq263 hT (fun b h => h.elim)).tb (Ch.rd hq264 (hG2.line qb hqbm).1.rd id) (Nat.lt_of_lt_of_le (hG2.line qb hqbm).1.lt (Ch.size hq264)) (hG2.line qb hqbm).2 (by omega)) fun w270 hc269 => ?_)
     have hq271 : Ch (fun _ => False) w w270 := Ch.trans hq263 hc269 iZ
     have hq272 : Ch (fun _ => False) w17 w270 := Ch.trans hq264 hc269 iZ
     have hq273 : Ch (fun _ => False) w239 w270 := Ch.trans hq265 hc269 iZ
     refine x_killed <| yg hfr254 [66, 67] [] .z <| yGe (nS ?_)
     refine yc (rN (rY (wholeB qb.l))) (fun hC274 => ?_) fun hC274 => ?_
     ·have hf275 := hC274
      exact absurd hf275 (by rw [hqb2]; decide)
     have hf276 := hC274
     refine x_skip (nB (nS ?_))
     refine x_region <| yp 2 [] (.q6 (((k : Nat) : Int) + 1) .z) <| yE (fun a ha => hL242 (k + 1) _ ⟨by omega, Ch.trans hc243 hq273 iZ⟩ (by show T.grid.h.toNat - (k + 1) < T.grid.h.toNat - k; omega) a (ha.kp [0, 3, 224, 225]))
    have hf277 := hC246
    refine x_exit (eS (then_exit (block_exit (nS ?_))))
    refine ys <| yD [1, 2, 4] fun w278 hH279 hc280 => ?_
    have hq281 : Ch (fun _ => False) w w278 := Ch.trans hq244 hc280 iZ
    have hq282 : Ch (fun _ => False) w17 w278 := Ch.trans hq245 hc280 iZ
    have hq283 : Ch (fun _ => False) w239 w278 := Ch.trans (Ch.refl (fun _ => False) w239) hc280 iZ
    refine yd [0, 3] [] .z <| x_dtwo 1 4 (by kernel_rfl) (by decide) ?_ ?_
    ·refine x_skill 1 _ (by kernel_rfl) rfl (yC (encode_any (TermAt.ch hAt0 hq282 iZ) hDk.enc) ?_)
     rintro _ w291 ⟨o284, n285, cap286, rfl, hO287, hn288, hlo289, hc290⟩
     refine ⟨_, rfl, ?_⟩
     have hq292 : Ch (fun _ => False) w w291 := Ch.trans hq281 hc290 iZ
     have hq293 : Ch (fun _ => False) w17 w291 := Ch.trans hq282 hc290 iZ
     have hq294 : Ch (fun _ => False) w239 w291 := Ch.trans hq283 hc290 iZ
     have hel : (encI T).length = n285 := encI_byts hO287
     refine x_killed <| x_dtwo 2 4 (by kernel_rfl) (by decide) ?_ ?_
     ·refine x_skill 2 _ (by kernel_rfl) rfl (e_bytes (o284.map at0) n285 cap286 (encI T) (some 299) (by kernel_rfl) ((Own.rd hO287).ch (Ch.refl (fun _ => False) w291) iZ) hel ?_)
      refine x_killed <| yK 4 (e_bytes a n cap us (some 301) (by kernel_rfl) (hr.ch hq292 iZ) hl ?_)
      refine x_killed <| yd [5, 6] [] .z <| yDe (nS ?_)
      refine x_ret (yR1 (.bool (((bytesOf (encI T))).toList == ((bytesOf us)).toList)) ?_)
      exact ⟨congrArg Ending.returned (congrArg Value.bool (by rw [hu2]; exact beq_self_eq_true _)), hq292⟩
     refine x_skill 4 _ (by kernel_rfl) rfl (e_bytes a n cap us (some 301) (by kernel_rfl) (hr.ch hq292 iZ) hl ?_)
     refine x_killed <| yK 2 (e_bytes (o284.map at0) n285 cap286 (encI T) (some 299) (by kernel_rfl) ((Own.rd hO287).ch (Ch.refl (fun _ => False) w291) iZ) hel ?_)
     refine x_killed <| yd [5, 6] [] .z <| yDe (nS ?_)
     refine x_ret (yR1 (.bool (((bytesOf (encI T))).toList == ((bytesOf us)).toList)) ?_)
     exact ⟨congrArg Ending.returned (congrArg Value.bool (by rw [hu2]; exact beq_self_eq_true _)), hq292⟩
    refine x_skill 4 _ (by kernel_rfl) rfl (e_bytes a n cap us (some 301) (by kernel_rfl) (hr.ch hq281 iZ) hl ?_)
    refine x_killed <| yK 1 (yC (encode_any (TermAt.ch hAt0 hq282 iZ) hDk.enc) ?_)
    rintro _ w302 ⟨o295, n296, cap297, rfl, hO298, hn299, hlo300, hc301⟩
    refine ⟨_, rfl, ?_⟩
    have hq303 : Ch (fun _ => False) w w302 := Ch.trans hq281 hc301 iZ
    have hq304 : Ch (fun _ => False) w17 w302 := Ch.trans hq282 hc301 iZ
    have hq305 : Ch (fun _ => False) w239 w302 := Ch.trans hq283 hc301 iZ
    have hel : (encI T).length = n296 := encI_byts hO298
    refine x_killed <| yK 2 (e_bytes (o295.map at0) n296 cap297 (encI T) (some 299) (by kernel_rfl) ((Own.rd hO298).ch (Ch.refl (fun _ => False) w302) iZ) hel ?_)
    refine x_killed <| yd [5, 6] [] .z <| yDe (nS ?_)
    refine x_ret (yR1 (.bool (((bytesOf (encI T))).toList == ((bytesOf us)).toList)) ?_)
    exact ⟨congrArg Ending.returned (congrArg Value.bool (by rw [hu2]; exact beq_self_eq_true _)), hq303⟩
   have hf306 := hC223
   refine yg hfr210 (uL 36 16) [] (.a (hB209.cs 3 5) .z) <| yK 52 (yQ (style_any T.away.sty _) fun w308 hc307 => ?_)
   have hq309 : Ch (fun _ => False) w w308 := Ch.trans hq204 hc307 iZ
   have hq310 : Ch (fun _ => False) w17 w308 := Ch.trans hq205 hc307 iZ
   refine x_killed <| yg hfr210 [53, 54] [] .z <| yGe (nS ?_)
   refine yc (rN (rY (styleB T.away.sty))) (fun hC315 => ?_) fun hC315 => ?_
   ·have hf316 := hC315
    exact absurd hf316 (by rw [hda.s]; decide)
   have hf317 := hC315
   refine x_skip (nB (nS ?_))
   refine x_region <| yp 2 [] (.q6 3 .z) <| yE (nU (yU1 ?_))
   refine ysr <| yp 1 [] .z <| ye <| ys <| ycf <| x_exit (eS (then_exit (block_exit (nS ?_))))
   refine ys <| ysr <| yp 8 [] (.l (cell_ch hq310 (hI.blk.c 0) id) (.l (cell_ch hq310 (hG1.head.c 1) id) .z)) <| ye <| x_block <| ykeep [0, 3, 224, 225] (f' := [(0, .slice a n cap), (3, pX t), (224, iX T.grid.h), (225, iX 0)]) <| x_loop (σ := Nat) (fun k => [(0, .slice a n cap), (3, pX t), (224, iX T.grid.h), (225, iX ((k : Nat) : Int))]) (fun k u => k ≤ T.grid.h.toNat ∧ Ch (fun _ => False) w308 u) (fun k => T.grid.h.toNat - k) 0 rfl ?_ ?_
   ·exact ⟨Nat.zero_le _, Ch.refl _ _⟩
   intro k w318 hI319 K320 hL321
   obtain ⟨hk, hc322⟩ := hI319
   have hq323 : Ch (fun _ => False) w w318 := Ch.trans hq309 hc322 iZ
   have hq324 : Ch (fun _ => False) w17 w318 := Ch.trans hq310 hc322 iZ
   refine ysr <| yp 1 [] .z <| ye <| ys <| yc (rL ((k : Nat) : Int) T.grid.h) (fun hC325 => ?_) fun hC325 => ?_
   ·have hf326 := hC325
    obtain ⟨qa, hqa, hqam⟩ := rows_at (rows := rw1) (k := k) (by omega)
    obtain ⟨qb, hqb, hqbm⟩ := rows_at (rows := rw2) (k := k) (by omega)
    obtain ⟨hqa1, hqa2, _⟩ := hdg.2 qa.l (by rw [← hG1.lines]; exact List.mem_map_of_mem hqam)
    obtain ⟨hqb1, hqb2, _⟩ := hdg2.2 qb.l (by rw [← hG2.lines]; exact List.mem_map_of_mem hqbm)
    have hqan := (hG1.line qa hqam).2
    have hqbn := (hG2.line qb hqbm).2
    refine yk <| ys <| x_block <| ysr <| yp 2 [] .z <| ye <| ys <| yD [51, 65] fun w327 hH328 hc329 => ?_
    have hq330 : Ch (fun _ => False) w w327 := Ch.trans hq323 hc329 iZ
    have hq331 : Ch (fun _ => False) w17 w327 := Ch.trans hq324 hc329 iZ
    have hq332 : Ch (fun _ => False) w318 w327 := Ch.trans (Ch.refl (fun _ => False) w318) hc329 iZ
    refine x_gfree (by kernel_rfl) (fun hfr333 => ?_)
    refine yg hfr333 (uL 0 20) [] (.l (cell_ch hq331 (hI.blk.c 0) id) (.l (cell_ch hq331 (hG1.head.c 2) id) (.i ((k : Nat) : Int) (rw1.length) (.l (ln_cell (Ch.rd hq331 hG1.body.rd id) hqa) (.l (cell_ch hq331 (hI.blk.c 0) id) (.l (cell_ch hq331 (hG1.head.c 0) id) .z)))))) <| yv [247] (rI ((qa.n : Nat) : Int) T.grid.w) (fun hC334 => ?_) fun hC334 => ?_
    ·have hf335 := hC334
     exfalso; omega
    have hf336 := hC334
    refine yg hfr333 (uL 20 21) [] (.l (cell_ch hq331 (hI.blk.c 1) id) (.l (cell_ch hq331 (hG2.head.c 2) id) (.i ((k : Nat) : Int) (rw2.length) (.l (ln_cell (Ch.rd hq331 hG2.body.rd id) hqb) (.l (cell_ch hq331 (hI.blk.c 0) id) (.l (cell_ch hq331 (hG1.head.c 0) id) .z)))))) <| yv [268] (rI ((qb.n : Nat) : Int) T.grid.w) (fun hC337 => ?_) fun hC337 => ?_
    ·have hf338 := hC337
     exfalso; omega
    have hf339 := hC337
    refine yg hfr333 (uL 41 10) [] (.l (cell_ch hq331 (hI.blk.c 0) id) (.l (cell_ch hq331 (hG1.head.c 2) id) (.i ((k : Nat) : Int) (rw1.length) (.l (ln_cell (Ch.rd hq331 hG1.body.rd id) hqa) .z)))) <| dkeep [0, 3, 7, 224, 225, 268, 278] (f' := [(0, .slice a n cap), (3, pX t), (7, iX ((k : Nat) : Int)), (224, iX T.grid.h), (225, iX ((k : Nat) : Int)), (268, .bool false), (278, .slice (some ⟨qa.b, 0, none⟩) qa.n qa.cap)]) <| yK 51 (yQ (whole_any qa.b qa.n qa.cap qa.l _ (lt_ch hq330 hT (fun b h => h.elim)).tb (Ch.rd hq331 (hG1.line qa hqam).1.rd id) (Nat.lt_of_lt_of_le (hG1.line qa hqam).1.lt (Ch.size hq331)) (hG1.line qa hqam).2 (by omega)) fun w341 hc340 => ?_)
    have hq342 : Ch (fun _ => False) w w341 := Ch.trans hq330 hc340 iZ
    have hq343 : Ch (fun _ => False) w17 w341 := Ch.trans hq331 hc340 iZ
    have hq344 : Ch (fun _ => False) w318 w341 := Ch.trans hq332 hc340 iZ
    refine x_killed <| yg hfr333 (uL 52 3) [] .z <| yv [282] (rN (rY (wholeB qa.l))) (fun hC345 => ?_) fun hC345 => ?_
    ·have hf346 := hC345
     exact absurd hf346 (by rw [hqa2]; decide)
    have hf347 := hC345
    refine yg hfr333 (uL 55 10) [] (.l (cell_ch hq343 (hI.blk.c 1) id) (.l (cell_ch hq343 (hG2.head.c 2) id) (.i ((k : Nat) : Int) (rw2.length) (.l (ln_cell (Ch.rd hq343 hG2.body.rd id) hqb) .z)))) <| yK 65 (yQ (whole_any qb.b qb.n qb.cap qb.l _ (lt_ch hq342 hT (fun b h => h.elim)).tb (Ch.rd hq343 (hG2.line qb hqbm).1.rd id) (Nat.lt_of_lt_of_le (hG2.line qb hqbm).1.lt (Ch.size hq343)) (hG2.line qb hqbm).2 (by omega)) fun w349 hc348 => ?_)
    have hq350 : Ch (fun _ => False) w w349 := Ch.trans hq342 hc348 iZ
    have hq351 : Ch (fun _ => False) w17 w349 := Ch.trans hq343 hc348 iZ
    have hq352 : Ch (fun _ => False) w318 w349 := Ch.trans hq344 hc348 iZ
    refine x_killed <| yg hfr333 [66, 67] [] .z <| yGe (nS ?_)
    refine yc (rN (rY (wholeB qb.l))) (fun hC353 => ?_) fun hC353 => ?_
    ·have hf354 := hC353
     exact absurd hf354 (by rw [hqb2]; decide)
    have hf355 := hC353
    refine x_skip (nB (nS ?_))
    refine x_region <| yp 2 [] (.q6 (((k : Nat) : Int) + 1) .z) <| yE (fun a ha => hL321 (k + 1) _ ⟨by omega, Ch.trans hc322 hq352 iZ⟩ (by show T.grid.h.toNat - (k + 1) < T.grid.h.toNat - k; omega) a (ha.kp [0, 3, 224, 225]))
   have hf356 := hC325
   refine x_exit (eS (then_exit (block_exit (nS ?_))))
   refine ys <| yD [1, 2, 4] fun w357 hH358 hc359 => ?_
   have hq360 : Ch (fun _ => False) w w357 := Ch.trans hq323 hc359 iZ
   have hq361 : Ch (fun _ => False) w17 w357 := Ch.trans hq324 hc359 iZ
   have hq362 : Ch (fun _ => False) w318 w357 := Ch.trans (Ch.refl (fun _ => False) w318) hc359 iZ
   refine yd [0, 3] [] .z <| x_dtwo 1 4 (by kernel_rfl) (by decide) ?_ ?_
   ·refine x_skill 1 _ (by kernel_rfl) rfl (yC (encode_any (TermAt.ch hAt0 hq361 iZ) hDk.enc) ?_)
    rintro _ w370 ⟨o363, n364, cap365, rfl, hO366, hn367, hlo368, hc369⟩
    refine ⟨_, rfl, ?_⟩
    have hq371 : Ch (fun _ => False) w w370 := Ch.trans hq360 hc369 iZ
    have hq372 : Ch (fun _ => False) w17 w370 := Ch.trans hq361 hc369 iZ
    have hq373 : Ch (fun _ => False) w318 w370 := Ch.trans hq362 hc369 iZ
    have hel : (encI T).length = n364 := encI_byts hO366
    refine x_killed <| x_dtwo 2 4 (by kernel_rfl) (by decide) ?_ ?_
    ·refine x_skill 2 _ (by kernel_rfl) rfl (e_bytes (o363.map at0) n364 cap365 (encI T) (some 299) (by kernel_rfl) ((Own.rd hO366).ch (Ch.refl (fun _ => False) w370) iZ) hel ?_)
     refine x_killed <| yK 4 (e_bytes a n cap us (some 301) (by kernel_rfl) (hr.ch hq371 iZ) hl ?_)
     refine x_killed <| yd [5, 6] [] .z <| yDe (nS ?_)
     refine x_ret (yR1 (.bool (((bytesOf (encI T))).toList == ((bytesOf us)).toList)) ?_)
     exact ⟨congrArg Ending.returned (congrArg Value.bool (by rw [hu2]; exact beq_self_eq_true _)), hq371⟩
    refine x_skill 4 _ (by kernel_rfl) rfl (e_bytes a n cap us (some 301) (by kernel_rfl) (hr.ch hq371 iZ) hl ?_)
    refine x_killed <| yK 2 (e_bytes (o363.map at0) n364 cap365 (encI T) (some 299) (by kernel_rfl) ((Own.rd hO366).ch (Ch.refl (fun _ => False) w370) iZ) hel ?_)
    refine x_killed <| yd [5, 6] [] .z <| yDe (nS ?_)
    refine x_ret (yR1 (.bool (((bytesOf (encI T))).toList == ((bytesOf us)).toList)) ?_)
    exact ⟨congrArg Ending.returned (congrArg Value.bool (by rw [hu2]; exact beq_self_eq_true _)), hq371⟩
   refine x_skill 4 _ (by kernel_rfl) rfl (e_bytes a n cap us (some 301) (by kernel_rfl) (hr.ch hq360 iZ) hl ?_)
   refine x_killed <| yK 1 (yC (encode_any (TermAt.ch hAt0 hq361 iZ) hDk.enc) ?_)
   rintro _ w381 ⟨o374, n375, cap376, rfl, hO377, hn378, hlo379, hc380⟩
   refine ⟨_, rfl, ?_⟩
   have hq382 : Ch (fun _ => False) w w381 := Ch.trans hq360 hc380 iZ
   have hq383 : Ch (fun _ => False) w17 w381 := Ch.trans hq361 hc380 iZ
   have hq384 : Ch (fun _ => False) w318 w381 := Ch.trans hq362 hc380 iZ
   have hel : (encI T).length = n375 := encI_byts hO377
   refine x_killed <| yK 2 (e_bytes (o374.map at0) n375 cap376 (encI T) (some 299) (by kernel_rfl) ((Own.rd hO377).ch (Ch.refl (fun _ => False) w381) iZ) hel ?_)
   refine x_killed <| yd [5, 6] [] .z <| yDe (nS ?_)
   refine x_ret (yR1 (.bool (((bytesOf (encI T))).toList == ((bytesOf us)).toList)) ?_)
   exact ⟨congrArg Ending.returned (congrArg Value.bool (by rw [hu2]; exact beq_self_eq_true _)), hq382⟩
  have hf385 := hC165
  refine yg hfr152 (uL 36 16) [] (.a (hB151.cs 3 5) .z) <| dkeep [0, 3, 156, 157, 158, 211, 213] (f' := [(0, .slice a n cap), (3, pX t), (156, .slice (some ⟨b65, 0, none⟩) 3 3), (157, iX 3), (158, iX 1), (211, .bool false), (213, .agg #[.bool T.saved.sty.bold, .bool T.saved.sty.under, .bool T.saved.sty.turned, iX T.saved.sty.fore, iX T.saved.sty.back])]) <| yK 52 (yQ (style_any T.saved.sty _) fun w387 hc386 => ?_)
  have hq388 : Ch (fun _ => False) w w387 := Ch.trans hq147 hc386 iZ
  have hq389 : Ch (fun _ => False) w17 w387 := Ch.trans hq148 hc386 iZ
  have hB390 := hB149.ch hc386 id
  refine x_killed <| yg hfr152 [53, 54] [] .z <| yGe (nS ?_)
  refine yc (rN (rY (styleB T.saved.sty))) (fun hC393 => ?_) fun hC393 => ?_
  ·have hf394 := hC393
   exact absurd hf394 (by rw [hds.s]; decide)
  have hf395 := hC393
  refine x_skip (nB (nS ?_))
  refine x_region <| yp 2 [] (.q6 2 .z) <| yE (nU (yU1 ?_))
  refine ysr <| yp 1 [] .z <| ye <| ys <| yct <| yk <| ys <| x_block <| ysr <| yp 2 [] (.i 2 (3) (.a (hB390.cs 16 8) .z)) <| yo (yN [iX 0, iX 0, .bool false, .bool false, .bool false, .bool false, iX 0, iX 0] 32 fun w396 b397 hb398 hz399 hB400 hc401 => ?_)
  have hlo402 : w.heap.size ≤ b397 := by rw [hb398]; exact Ch.size hq388
  have hlo403 : w17.heap.size ≤ b397 := by rw [hb398]; exact Ch.size hq389
  have hq404 : Ch (fun _ => False) w w396 := Ch.trans hq388 hc401 iZ
  have hq405 : Ch (fun _ => False) w17 w396 := Ch.trans hq389 hc401 iZ
  refine yo (yS hB400 fun w409 hB410 hc411 => ?_)
  have hq412 : Ch (fun _ => False) w w409 := Ch.trans hq404 hc411 (fun i hi (h : i = b397) => by have := hlo402; omega)
  have hq413 : Ch (fun _ => False) w17 w409 := Ch.trans hq405 hc411 (fun i hi (h : i = b397) => by have := hlo403; omega)
  replace hB410 : Blk w409 b397 [iX T.away.x, iX T.away.y, .bool T.away.late, .bool T.away.sty.bold, .bool T.away.sty.under, .bool T.away.sty.turned, iX T.away.sty.fore, iX T.away.sty.back] _ := Blk.to hB410 (by kernel_rfl)
  refine ye <| ys <| yD [52] fun w417 hH418 hc419 => ?_
  have hq420 : Ch (fun _ => False) w w417 := Ch.trans hq412 hc419 iZ
  have hq421 : Ch (fun _ => False) w17 w417 := Ch.trans hq413 hc419 iZ
  have hB425 := hB410.ch hc419 id
  refine x_gfree (by kernel_rfl) (fun hfr426 => ?_)
  refine yg hfr426 (uL 0 4) [] (.l (hB425.c 0) .z) <| yv [165] (rL T.away.x 0) (fun hC427 => ?_) fun hC427 => ?_
  ·have hf428 := hC427
   exfalso; have h8 := hda.x; have h9 := hda.y; omega
  have hf429 := hC427
  refine yg hfr426 (uL 4 12) [] (.l (hB425.c 0) (.l (cell_ch hq421 (hI.blk.c 0) id) (.l (cell_ch hq421 (hG1.head.c 0) id) .z))) <| yv [177] (rM T.grid.w T.away.x) (fun hC430 => ?_) fun hC430 => ?_
  ·have hf431 := hC430
   exfalso; have h8 := hda.x; have h9 := hda.y; omega
  have hf432 := hC430
  refine yg hfr426 (uL 16 5) [] (.l (hB425.c 1) .z) <| yv [182] (rL T.away.y 0) (fun hC433 => ?_) fun hC433 => ?_
  ·have hf434 := hC433
   exfalso; have h8 := hda.x; have h9 := hda.y; omega
  have hf435 := hC433
  refine yg hfr426 (uL 21 12) [] (.l (hB425.c 1) (.l (cell_ch hq421 (hI.blk.c 0) id) (.l (cell_ch hq421 (hG1.head.c 1) id) .z))) <| yv [194] (rM T.grid.h T.away.y) (fun hC436 => ?_) fun hC436 => ?_
  ·have hf437 := hC436
   exfalso; have h8 := hda.x; have h9 := hda.y; omega
  have hf438 := hC436
  refine yg hfr426 (uL 33 3) [] (.l (hB425.c 2) .z) <| yv [197] (rY T.away.late) (fun hC439 => ?_) fun hC439 => ?_
  ·have hf440 := hC439
   refine yg hfr426 (uL 36 14) [] (.l (hB425.c 0) (.l (cell_ch hq421 (hI.blk.c 0) id) (.l (cell_ch hq421 (hG1.head.c 0) id) (.q6 (T.grid.w - 1) .z)))) <| yv [211] (rI T.away.x (T.grid.w - 1)) (fun hC441 => ?_) fun hC441 => ?_
   ·have hf442 := hC441
    exfalso; have h9 := hda.l (by assumption); omega
   have hf443 := hC441
   refine yg hfr426 [50, 51] [] (.a (hB425.cs 3 5) .z) <| yK 52 (yQ (style_any T.away.sty _) fun w445 hc444 => ?_)
   have hq446 : Ch (fun _ => False) w w445 := Ch.trans hq420 hc444 iZ
   have hq447 : Ch (fun _ => False) w17 w445 := Ch.trans hq421 hc444 iZ
   refine x_killed <| yg hfr426 [53, 54] [] .z <| yGe (nS ?_)
   refine yc (rN (rY (styleB T.away.sty))) (fun hC452 => ?_) fun hC452 => ?_
   ·have hf453 := hC452
    exact absurd hf453 (by rw [hda.s]; decide)
   have hf454 := hC452
   refine x_skip (nB (nS ?_))
   refine x_region <| yp 2 [] (.q6 3 .z) <| yE (nU (yU1 ?_))
   refine ysr <| yp 1 [] .z <| ye <| ys <| ycf <| x_exit (eS (then_exit (block_exit (nS ?_))))
   refine ys <| ysr <| yp 8 [] (.l (cell_ch hq447 (hI.blk.c 0) id) (.l (cell_ch hq447 (hG1.head.c 1) id) .z)) <| ye <| x_block <| ykeep [0, 3, 224, 225] (f' := [(0, .slice a n cap), (3, pX t), (224, iX T.grid.h), (225, iX 0)]) <| x_loop (σ := Nat) (fun k => [(0, .slice a n cap), (3, pX t), (224, iX T.grid.h), (225, iX ((k : Nat) : Int))]) (fun k u => k ≤ T.grid.h.toNat ∧ Ch (fun _ => False) w445 u) (fun k => T.grid.h.toNat - k) 0 rfl ?_ ?_
   ·exact ⟨Nat.zero_le _, Ch.refl _ _⟩
   intro k w455 hI456 K457 hL458
   obtain ⟨hk, hc459⟩ := hI456
   have hq460 : Ch (fun _ => False) w w455 := Ch.trans hq446 hc459 iZ
   have hq461 : Ch (fun _ => False) w17 w455 := Ch.trans hq447 hc459 iZ
   refine ysr <| yp 1 [] .z <| ye <| ys <| yc (rL ((k : Nat) : Int) T.grid.h) (fun hC462 => ?_) fun hC462 => ?_
   ·have hf463 := hC462
    obtain ⟨qa, hqa, hqam⟩ := rows_at (rows := rw1) (k := k) (by omega)
    obtain ⟨qb, hqb, hqbm⟩ := rows_at (rows := rw2) (k := k) (by omega)
    obtain ⟨hqa1, hqa2, _⟩ := hdg.2 qa.l (by rw [← hG1.lines]; exact List.mem_map_of_mem hqam)
    obtain ⟨hqb1, hqb2, _⟩ := hdg2.2 qb.l (by rw [← hG2.lines]; exact List.mem_map_of_mem hqbm)
    have hqan := (hG1.line qa hqam).2
    have hqbn := (hG2.line qb hqbm).2
    refine yk <| ys <| x_block <| ysr <| yp 2 [] .z <| ye <| ys <| yD [51, 65] fun w464 hH465 hc466 => ?_
    have hq467 : Ch (fun _ => False) w w464 := Ch.trans hq460 hc466 iZ
    have hq468 : Ch (fun _ => False) w17 w464 := Ch.trans hq461 hc466 iZ
    have hq469 : Ch (fun _ => False) w455 w464 := Ch.trans (Ch.refl (fun _ => False) w455) hc466 iZ
    refine x_gfree (by kernel_rfl) (fun hfr470 => ?_)
    refine yg hfr470 (uL 0 20) [] (.l (cell_ch hq468 (hI.blk.c 0) id) (.l (cell_ch hq468 (hG1.head.c 2) id) (.i ((k : Nat) : Int) (rw1.length) (.l (ln_cell (Ch.rd hq468 hG1.body.rd id) hqa) (.l (cell_ch hq468 (hI.blk.c 0) id) (.l (cell_ch hq468 (hG1.head.c 0) id) .z)))))) <| yv [247] (rI ((qa.n : Nat) : Int) T.grid.w) (fun hC471 => ?_) fun hC471 => ?_
    ·have hf472 := hC471
     exfalso; omega
    have hf473 := hC471
    refine yg hfr470 (uL 20 21) [] (.l (cell_ch hq468 (hI.blk.c 1) id) (.l (cell_ch hq468 (hG2.head.c 2) id) (.i ((k : Nat) : Int) (rw2.length) (.l (ln_cell (Ch.rd hq468 hG2.body.rd id) hqb) (.l (cell_ch hq468 (hI.blk.c 0) id) (.l (cell_ch hq468 (hG1.head.c 0) id) .z)))))) <| yv [268] (rI ((qb.n : Nat) : Int) T.grid.w) (fun hC474 => ?_) fun hC474 => ?_
    ·have hf475 := hC474
     exfalso; omega
    have hf476 := hC474
    refine yg hfr470 (uL 41 10) [] (.l (cell_ch hq468 (hI.blk.c 0) id) (.l (cell_ch hq468 (hG1.head.c 2) id) (.i ((k : Nat) : Int) (rw1.length) (.l (ln_cell (Ch.rd hq468 hG1.body.rd id) hqa) .z)))) <| dkeep [0, 3, 7, 224, 225, 268, 278] (f' := [(0, .slice a n cap), (3, pX t), (7, iX ((k : Nat) : Int)), (224, iX T.grid.h), (225, iX ((k : Nat) : Int)), (268, .bool false), (278, .slice (some ⟨qa.b, 0, none⟩) qa.n qa.cap)]) <| yK 51 (yQ (whole_any qa.b qa.n qa.cap qa.l _ (lt_ch hq467 hT (fun b h => h.elim)).tb (Ch.rd hq468 (hG1.line qa hqam).1.rd id) (Nat.lt_of_lt_of_le (hG1.line qa hqam).1.lt (Ch.size hq468)) (hG1.line qa hqam).2 (by omega)) fun w478 hc477 => ?_)
    have hq479 : Ch (fun _ => False) w w478 := Ch.trans hq467 hc477 iZ
    have hq480 : Ch (fun _ => False) w17 w478 := Ch.trans hq468 hc477 iZ
    have hq481 : Ch (fun _ => False) w455 w478 := Ch.trans hq469 hc477 iZ
    refine x_killed <| yg hfr470 (uL 52 3) [] .z <| yv [282] (rN (rY (wholeB qa.l))) (fun hC482 => ?_) fun hC482 => ?_
    ·have hf483 := hC482
     exact absurd hf483 (by rw [hqa2]; decide)
    have hf484 := hC482
    refine yg hfr470 (uL 55 10) [] (.l (cell_ch hq480 (hI.blk.c 1) id) (.l (cell_ch hq480 (hG2.head.c 2) id) (.i ((k : Nat) : Int) (rw2.length) (.l (ln_cell (Ch.rd hq480 hG2.body.rd id) hqb) .z)))) <| yK 65 (yQ (whole_any qb.b qb.n qb.cap qb.l _ (lt_ch hq479 hT (fun b h => h.elim)).tb (Ch.rd hq480 (hG2.line qb hqbm).1.rd id) (Nat.lt_of_lt_of_le (hG2.line qb hqbm).1.lt (Ch.size hq480)) (hG2.line qb hqbm).2 (by omega)) fun w486 hc485 => ?_)
    have hq487 : Ch (fun _ => False) w w486 := Ch.trans hq479 hc485 iZ
    have hq488 : Ch (fun _ => False) w17 w486 := Ch.trans hq480 hc485 iZ
    have hq489 : Ch (fun _ => False) w455 w486 := Ch.trans hq481 hc485 iZ
    refine x_killed <| yg hfr470 [66, 67] [] .z <| yGe (nS ?_)
    refine yc (rN (rY (wholeB qb.l))) (fun hC490 => ?_) fun hC490 => ?_
    ·have hf491 := hC490
     exact absurd hf491 (by rw [hqb2]; decide)
    have hf492 := hC490
    refine x_skip (nB (nS ?_))
    refine x_region <| yp 2 [] (.q6 (((k : Nat) : Int) + 1) .z) <| yE (fun a ha => hL458 (k + 1) _ ⟨by omega, Ch.trans hc459 hq489 iZ⟩ (by show T.grid.h.toNat - (k + 1) < T.grid.h.toNat - k; omega) a (ha.kp [0, 3, 224, 225]))
   have hf493 := hC462
   refine x_exit (eS (then_exit (block_exit (nS ?_))))
   refine ys <| yD [1, 2, 4] fun w494 hH495 hc496 => ?_
   have hq497 : Ch (fun _ => False) w w494 := Ch.trans hq460 hc496 iZ
   have hq498 : Ch (fun _ => False) w17 w494 := Ch.trans hq461 hc496 iZ
   have hq499 : Ch (fun _ => False) w455 w494 := Ch.trans (Ch.refl (fun _ => False) w455) hc496 iZ
   refine yd [0, 3] [] .z <| x_dtwo 1 4 (by kernel_rfl) (by decide) ?_ ?_
   ·refine x_skill 1 _ (by kernel_rfl) rfl (yC (encode_any (TermAt.ch hAt0 hq498 iZ) hDk.enc) ?_)
    rintro _ w507 ⟨o500, n501, cap502, rfl, hO503, hn504, hlo505, hc506⟩
    refine ⟨_, rfl, ?_⟩
    have hq508 : Ch (fun _ => False) w w507 := Ch.trans hq497 hc506 iZ
    have hq509 : Ch (fun _ => False) w17 w507 := Ch.trans hq498 hc506 iZ
    have hq510 : Ch (fun _ => False) w455 w507 := Ch.trans hq499 hc506 iZ
    have hel : (encI T).length = n501 := encI_byts hO503
    refine x_killed <| x_dtwo 2 4 (by kernel_rfl) (by decide) ?_ ?_
    ·refine x_skill 2 _ (by kernel_rfl) rfl (e_bytes (o500.map at0) n501 cap502 (encI T) (some 299) (by kernel_rfl) ((Own.rd hO503).ch (Ch.refl (fun _ => False) w507) iZ) hel ?_)
     refine x_killed <| yK 4 (e_bytes a n cap us (some 301) (by kernel_rfl) (hr.ch hq508 iZ) hl ?_)
     refine x_killed <| yd [5, 6] [] .z <| yDe (nS ?_)
     refine x_ret (yR1 (.bool (((bytesOf (encI T))).toList == ((bytesOf us)).toList)) ?_)
     exact ⟨congrArg Ending.returned (congrArg Value.bool (by rw [hu2]; exact beq_self_eq_true _)), hq508⟩
    refine x_skill 4 _ (by kernel_rfl) rfl (e_bytes a n cap us (some 301) (by kernel_rfl) (hr.ch hq508 iZ) hl ?_)
    refine x_killed <| yK 2 (e_bytes (o500.map at0) n501 cap502 (encI T) (some 299) (by kernel_rfl) ((Own.rd hO503).ch (Ch.refl (fun _ => False) w507) iZ) hel ?_)
    refine x_killed <| yd [5, 6] [] .z <| yDe (nS ?_)
    refine x_ret (yR1 (.bool (((bytesOf (encI T))).toList == ((bytesOf us)).toList)) ?_)
    exact ⟨congrArg Ending.returned (congrArg Value.bool (by rw [hu2]; exact beq_self_eq_true _)), hq508⟩
   refine x_skill 4 _ (by kernel_rfl) rfl (e_bytes a n cap us (some 301) (by kernel_rfl) (hr.ch hq497 iZ) hl ?_)
   refine x_killed <| yK 1 (yC (encode_any (TermAt.ch hAt0 hq498 iZ) hDk.enc) ?_)
   rintro _ w518 ⟨o511, n512, cap513, rfl, hO514, hn515, hlo516, hc517⟩
   refine ⟨_, rfl, ?_⟩
   have hq519 : Ch (fun _ => False) w w518 := Ch.trans hq497 hc517 iZ
   have hq520 : Ch (fun _ => False) w17 w518 := Ch.trans hq498 hc517 iZ
   have hq521 : Ch (fun _ => False) w455 w518 := Ch.trans hq499 hc517 iZ
   have hel : (encI T).length = n512 := encI_byts hO514
   refine x_killed <| yK 2 (e_bytes (o511.map at0) n512 cap513 (encI T) (some 299) (by kernel_rfl) ((Own.rd hO514).ch (Ch.refl (fun _ => False) w518) iZ) hel ?_)
   refine x_killed <| yd [5, 6] [] .z <| yDe (nS ?_)
   refine x_ret (yR1 (.bool (((bytesOf (encI T))).toList == ((bytesOf us)).toList)) ?_)
   exact ⟨congrArg Ending.returned (congrArg Value.bool (by rw [hu2]; exact beq_self_eq_true _)), hq519⟩
  have hf522 := hC439
  refine yg hfr426 (uL 36 16) [] (.a (hB425.cs 3 5) .z) <| yK 52 (yQ (style_any T.away.sty _) fun w524 hc523 => ?_)
  have hq525 : Ch (fun _ => False) w w524 := Ch.trans hq420 hc523 iZ
  have hq526 : Ch (fun _ => False) w17 w524 := Ch.trans hq421 hc523 iZ
  refine x_killed <| yg hfr426 [53, 54] [] .z <| yGe (nS ?_)
  refine yc (rN (rY (styleB T.away.sty))) (fun hC531 => ?_) fun hC531 => ?_
  ·have hf532 := hC531
   exact absurd hf532 (by rw [hda.s]; decide)
  have hf533 := hC531
  refine x_skip (nB (nS ?_))
  refine x_region <| yp 2 [] (.q6 3 .z) <| yE (nU (yU1 ?_))
  refine ysr <| yp 1 [] .z <| ye <| ys <| ycf <| x_exit (eS (then_exit (block_exit (nS ?_))))
  refine ys <| ysr <| yp 8 [] (.l (cell_ch hq526 (hI.blk.c 0) id) (.l (cell_ch hq526 (hG1.head.c 1) id) .z)) <| ye <| x_block <| ykeep [0, 3, 224, 225] (f' := [(0, .slice a n cap), (3, pX t), (224, iX T.grid.h), (225, iX 0)]) <| x_loop (σ := Nat) (fun k => [(0, .slice a n cap), (3, pX t), (224, iX T.grid.h), (225, iX ((k : Nat) : Int))]) (fun k u => k ≤ T.grid.h.toNat ∧ Ch (fun _ => False) w524 u) (fun k => T.grid.h.toNat - k) 0 rfl ?_ ?_
  ·exact ⟨Nat.zero_le _, Ch.refl _ _⟩
  intro k w534 hI535 K536 hL537
  obtain ⟨hk, hc538⟩ := hI535
  have hq539 : Ch (fun _ => False) w w534 := Ch.trans hq525 hc538 iZ
  have hq540 : Ch (fun _ => False) w17 w534 := Ch.trans hq526 hc538 iZ
  refine ysr <| yp 1 [] .z <| ye <| ys <| yc (rL ((k : Nat) : Int) T.grid.h) (fun hC541 => ?_) fun hC541 => ?_
  ·have hf542 := hC541
   obtain ⟨qa, hqa, hqam⟩ := rows_at (rows := rw1) (k := k) (by omega)
   obtain ⟨qb, hqb, hqbm⟩ := rows_at (rows := rw2) (k := k) (by omega)
   obtain ⟨hqa1, hqa2, _⟩ := hdg.2 qa.l (by rw [← hG1.lines]; exact List.mem_map_of_mem hqam)
   obtain ⟨hqb1, hqb2, _⟩ := hdg2.2 qb.l (by rw [← hG2.lines]; exact List.mem_map_of_mem hqbm)
   have hqan := (hG1.line qa hqam).2
   have hqbn := (hG2.line qb hqbm).2
   refine yk <| ys <| x_block <| ysr <| yp 2 [] .z <| ye <| ys <| yD [51, 65] fun w543 hH544 hc545 => ?_
   have hq546 : Ch (fun _ => False) w w543 := Ch.trans hq539 hc545 iZ
   have hq547 : Ch (fun _ => False) w17 w543 := Ch.trans hq540 hc545 iZ
   have hq548 : Ch (fun _ => False) w534 w543 := Ch.trans (Ch.refl (fun _ => False) w534) hc545 iZ
   refine x_gfree (by kernel_rfl) (fun hfr549 => ?_)
   refine yg hfr549 (uL 0 20) [] (.l (cell_ch hq547 (hI.blk.c 0) id) (.l (cell_ch hq547 (hG1.head.c 2) id) (.i ((k : Nat) : Int) (rw1.length) (.l (ln_cell (Ch.rd hq547 hG1.body.rd id) hqa) (.l (cell_ch hq547 (hI.blk.c 0) id) (.l (cell_ch hq547 (hG1.head.c 0) id) .z)))))) <| yv [247] (rI ((qa.n : Nat) : Int) T.grid.w) (fun hC550 => ?_) fun hC550 => ?_
   ·have hf551 := hC550
    exfalso; omega
   have hf552 := hC550
   refine yg hfr549 (uL 20 21) [] (.l (cell_ch hq547 (hI.blk.c 1) id) (.l (cell_ch hq547 (hG2.head.c 2) id) (.i ((k : Nat) : Int) (rw2.length) (.l (ln_cell (Ch.rd hq547 hG2.body.rd id) hqb) (.l (cell_ch hq547 (hI.blk.c 0) id) (.l (cell_ch hq547 (hG1.head.c 0) id) .z)))))) <| yv [268] (rI ((qb.n : Nat) : Int) T.grid.w) (fun hC553 => ?_) fun hC553 => ?_
   ·have hf554 := hC553
    exfalso; omega
   have hf555 := hC553
   refine yg hfr549 (uL 41 10) [] (.l (cell_ch hq547 (hI.blk.c 0) id) (.l (cell_ch hq547 (hG1.head.c 2) id) (.i ((k : Nat) : Int) (rw1.length) (.l (ln_cell (Ch.rd hq547 hG1.body.rd id) hqa) .z)))) <| dkeep [0, 3, 7, 224, 225, 268, 278] (f' := [(0, .slice a n cap), (3, pX t), (7, iX ((k : Nat) : Int)), (224, iX T.grid.h), (225, iX ((k : Nat) : Int)), (268, .bool false), (278, .slice (some ⟨qa.b, 0, none⟩) qa.n qa.cap)]) <| yK 51 (yQ (whole_any qa.b qa.n qa.cap qa.l _ (lt_ch hq546 hT (fun b h => h.elim)).tb (Ch.rd hq547 (hG1.line qa hqam).1.rd id) (Nat.lt_of_lt_of_le (hG1.line qa hqam).1.lt (Ch.size hq547)) (hG1.line qa hqam).2 (by omega)) fun w557 hc556 => ?_)
   have hq558 : Ch (fun _ => False) w w557 := Ch.trans hq546 hc556 iZ
   have hq559 : Ch (fun _ => False) w17 w557 := Ch.trans hq547 hc556 iZ
   have hq560 : Ch (fun _ => False) w534 w557 := Ch.trans hq548 hc556 iZ
   refine x_killed <| yg hfr549 (uL 52 3) [] .z <| yv [282] (rN (rY (wholeB qa.l))) (fun hC561 => ?_) fun hC561 => ?_
   ·have hf562 := hC561
    exact absurd hf562 (by rw [hqa2]; decide)
   have hf563 := hC561
   refine yg hfr549 (uL 55 10) [] (.l (cell_ch hq559 (hI.blk.c 1) id) (.l (cell_ch hq559 (hG2.head.c 2) id) (.i ((k : Nat) : Int) (rw2.length) (.l (ln_cell (Ch.rd hq559 hG2.body.rd id) hqb) .z)))) <| yK 65 (yQ (whole_any qb.b qb.n qb.cap qb.l _ (lt_ch hq558 hT (fun b h => h.elim)).tb (Ch.rd hq559 (hG2.line qb hqbm).1.rd id) (Nat.lt_of_lt_of_le (hG2.line qb hqbm).1.lt (Ch.size hq559)) (hG2.line qb hqbm).2 (by omega)) fun w565 hc564 => ?_)
   have hq566 : Ch (fun _ => False) w w565 := Ch.trans hq558 hc564 iZ
   have hq567 : Ch (fun _ => False) w17 w565 := Ch.trans hq559 hc564 iZ
   have hq568 : Ch (fun _ => False) w534 w565 := Ch.trans hq560 hc564 iZ
   refine x_killed <| yg hfr549 [66, 67] [] .z <| yGe (nS ?_)
   refine yc (rN (rY (wholeB qb.l))) (fun hC569 => ?_) fun hC569 => ?_
   ·have hf570 := hC569
    exact absurd hf570 (by rw [hqb2]; decide)
   have hf571 := hC569
   refine x_skip (nB (nS ?_))
   refine x_region <| yp 2 [] (.q6 (((k : Nat) : Int) + 1) .z) <| yE (fun a ha => hL537 (k + 1) _ ⟨by omega, Ch.trans hc538 hq568 iZ⟩ (by show T.grid.h.toNat - (k + 1) < T.grid.h.toNat - k; omega) a (ha.kp [0, 3, 224, 225]))
  have hf572 := hC541
  refine x_exit (eS (then_exit (block_exit (nS ?_))))
  refine ys <| yD [1, 2, 4] fun w573 hH574 hc575 => ?_
  have hq576 : Ch (fun _ => False) w w573 := Ch.trans hq539 hc575 iZ
  have hq577 : Ch (fun _ => False) w17 w573 := Ch.trans hq540 hc575 iZ
  have hq578 : Ch (fun _ => False) w534 w573 := Ch.trans (Ch.refl (fun _ => False) w534) hc575 iZ
  refine yd [0, 3] [] .z <| x_dtwo 1 4 (by kernel_rfl) (by decide) ?_ ?_
  ·refine x_skill 1 _ (by kernel_rfl) rfl (yC (encode_any (TermAt.ch hAt0 hq577 iZ) hDk.enc) ?_)
   rintro _ w586 ⟨o579, n580, cap581, rfl, hO582, hn583, hlo584, hc585⟩
   refine ⟨_, rfl, ?_⟩
   have hq587 : Ch (fun _ => False) w w586 := Ch.trans hq576 hc585 iZ
   have hq588 : Ch (fun _ => False) w17 w586 := Ch.trans hq577 hc585 iZ
   have hq589 : Ch (fun _ => False) w534 w586 := Ch.trans hq578 hc585 iZ
   have hel : (encI T).length = n580 := encI_byts hO582
   refine x_killed <| x_dtwo 2 4 (by kernel_rfl) (by decide) ?_ ?_
   ·refine x_skill 2 _ (by kernel_rfl) rfl (e_bytes (o579.map at0) n580 cap581 (encI T) (some 299) (by kernel_rfl) ((Own.rd hO582).ch (Ch.refl (fun _ => False) w586) iZ) hel ?_)
    refine x_killed <| yK 4 (e_bytes a n cap us (some 301) (by kernel_rfl) (hr.ch hq587 iZ) hl ?_)
    refine x_killed <| yd [5, 6] [] .z <| yDe (nS ?_)
    refine x_ret (yR1 (.bool (((bytesOf (encI T))).toList == ((bytesOf us)).toList)) ?_)
    exact ⟨congrArg Ending.returned (congrArg Value.bool (by rw [hu2]; exact beq_self_eq_true _)), hq587⟩
   refine x_skill 4 _ (by kernel_rfl) rfl (e_bytes a n cap us (some 301) (by kernel_rfl) (hr.ch hq587 iZ) hl ?_)
   refine x_killed <| yK 2 (e_bytes (o579.map at0) n580 cap581 (encI T) (some 299) (by kernel_rfl) ((Own.rd hO582).ch (Ch.refl (fun _ => False) w586) iZ) hel ?_)
   refine x_killed <| yd [5, 6] [] .z <| yDe (nS ?_)
   refine x_ret (yR1 (.bool (((bytesOf (encI T))).toList == ((bytesOf us)).toList)) ?_)
   exact ⟨congrArg Ending.returned (congrArg Value.bool (by rw [hu2]; exact beq_self_eq_true _)), hq587⟩
  refine x_skill 4 _ (by kernel_rfl) rfl (e_bytes a n cap us (some 301) (by kernel_rfl) (hr.ch hq576 iZ) hl ?_)
  refine x_killed <| yK 1 (yC (encode_any (TermAt.ch hAt0 hq577 iZ) hDk.enc) ?_)
  rintro _ w597 ⟨o590, n591, cap592, rfl, hO593, hn594, hlo595, hc596⟩
  refine ⟨_, rfl, ?_⟩
  have hq598 : Ch (fun _ => False) w w597 := Ch.trans hq576 hc596 iZ
  have hq599 : Ch (fun _ => False) w17 w597 := Ch.trans hq577 hc596 iZ
  have hq600 : Ch (fun _ => False) w534 w597 := Ch.trans hq578 hc596 iZ
  have hel : (encI T).length = n591 := encI_byts hO593
  refine x_killed <| yK 2 (e_bytes (o590.map at0) n591 cap592 (encI T) (some 299) (by kernel_rfl) ((Own.rd hO593).ch (Ch.refl (fun _ => False) w597) iZ) hel ?_)
  refine x_killed <| yd [5, 6] [] .z <| yDe (nS ?_)
  refine x_ret (yR1 (.bool (((bytesOf (encI T))).toList == ((bytesOf us)).toList)) ?_)
  exact ⟨congrArg Ending.returned (congrArg Value.bool (by rw [hu2]; exact beq_self_eq_true _)), hq598⟩
 have hf601 := hC111
 refine yg hfr98 (uL 36 16) [] (.a (hB97.cs 3 5) .z) <| yK 52 (yQ (style_any T.cursor.sty _) fun w603 hc602 => ?_)
 have hq604 : Ch (fun _ => False) w w603 := Ch.trans hq94 hc602 iZ
 have hq605 : Ch (fun _ => False) w17 w603 := Ch.trans hq95 hc602 iZ
 have hB606 := hB96.ch hc602 id
 refine x_killed <| yg hfr98 [53, 54] [] .z <| yGe (nS ?_)
 refine yc (rN (rY (styleB T.cursor.sty))) (fun hC608 => ?_) fun hC608 => ?_
 ·have hf609 := hC608
  exact absurd hf609 (by rw [hdc.s]; decide)
 have hf610 := hC608
 refine x_skip (nB (nS ?_))
 refine x_region <| yp 2 [] (.q6 1 .z) <| yE (nU (yU1 ?_))
 refine ysr <| yp 1 [] .z <| ye <| ys <| yct <| yk <| ys <| x_block <| ysr <| yp 2 [] (.i 1 (3) (.a (hB606.cs 8 8) .z)) <| yo (yN [iX 0, iX 0, .bool false, .bool false, .bool false, .bool false, iX 0, iX 0] 32 fun w611 b612 hb613 hz614 hB615 hc616 => ?_)
 have hlo617 : w.heap.size ≤ b612 := by rw [hb613]; exact Ch.size hq604
 have hlo618 : w17.heap.size ≤ b612 := by rw [hb613]; exact Ch.size hq605
 have hq619 : Ch (fun _ => False) w w611 := Ch.trans hq604 hc616 iZ
 have hq620 : Ch (fun _ => False) w17 w611 := Ch.trans hq605 hc616 iZ
 have hB621 := hB606.ch hc616 id
 refine yo (yS hB615 fun w623 hB624 hc625 => ?_)
 have hq626 : Ch (fun _ => False) w w623 := Ch.trans hq619 hc625 (fun i hi (h : i = b612) => by have := hlo617; omega)
 have hq627 : Ch (fun _ => False) w17 w623 := Ch.trans hq620 hc625 (fun i hi (h : i = b612) => by have := hlo618; omega)
 have hB628 := hB621.ch hc625 (fun (h : b65 = b612) => by have := hB606.lt; omega)
 replace hB624 : Blk w623 b612 [iX T.saved.x, iX T.saved.y, .bool T.saved.late, .bool T.saved.sty.bold, .bool T.saved.sty.under, .bool T.saved.sty.turned, iX T.saved.sty.fore, iX T.saved.sty.back] _ := Blk.to hB624 (by kernel_rfl)
 refine ye <| ys <| yD [52] fun w630 hH631 hc632 => ?_
 have hq633 : Ch (fun _ => False) w w630 := Ch.trans hq626 hc632 iZ
 have hq634 : Ch (fun _ => False) w17 w630 := Ch.trans hq627 hc632 iZ
 have hB635 := hB628.ch hc632 id
 have hB637 := hB624.ch hc632 id
 refine x_gfree (by kernel_rfl) (fun hfr638 => ?_)
 refine yg hfr638 (uL 0 4) [] (.l (hB637.c 0) .z) <| yv [165] (rL T.saved.x 0) (fun hC639 => ?_) fun hC639 => ?_
 ·have hf640 := hC639
  exfalso; have h8 := hds.x; have h9 := hds.y; omega
 have hf641 := hC639
 refine yg hfr638 (uL 4 12) [] (.l (hB637.c 0) (.l (cell_ch hq634 (hI.blk.c 0) id) (.l (cell_ch hq634 (hG1.head.c 0) id) .z))) <| yv [177] (rM T.grid.w T.saved.x) (fun hC642 => ?_) fun hC642 => ?_
 ·have hf643 := hC642
  exfalso; have h8 := hds.x; have h9 := hds.y; omega
 have hf644 := hC642
 refine yg hfr638 (uL 16 5) [] (.l (hB637.c 1) .z) <| yv [182] (rL T.saved.y 0) (fun hC645 => ?_) fun hC645 => ?_
 ·have hf646 := hC645
  exfalso; have h8 := hds.x; have h9 := hds.y; omega
 have hf647 := hC645
 refine yg hfr638 (uL 21 12) [] (.l (hB637.c 1) (.l (cell_ch hq634 (hI.blk.c 0) id) (.l (cell_ch hq634 (hG1.head.c 1) id) .z))) <| yv [194] (rM T.grid.h T.saved.y) (fun hC648 => ?_) fun hC648 => ?_
 ·have hf649 := hC648
  exfalso; have h8 := hds.x; have h9 := hds.y; omega
 have hf650 := hC648
 refine yg hfr638 (uL 33 3) [] (.l (hB637.c 2) .z) <| yv [197] (rY T.saved.late) (fun hC651 => ?_) fun hC651 => ?_
 ·have hf652 := hC651
  refine yg hfr638 (uL 36 14) [] (.l (hB637.c 0) (.l (cell_ch hq634 (hI.blk.c 0) id) (.l (cell_ch hq634 (hG1.head.c 0) id) (.q6 (T.grid.w - 1) .z)))) <| dkeep [0, 3, 6, 156, 157, 158, 211] (f' := [(0, .slice a n cap), (3, pX t), (6, pX b612), (156, .slice (some ⟨b65, 0, none⟩) 3 3), (157, iX 3), (158, iX 1), (211, .bool ((T.saved.x : Int) != (T.grid.w - 1)))]) <| yv [211] (rI T.saved.x (T.grid.w - 1)) (fun hC653 => ?_) fun hC653 => ?_
  ·have hf654 := hC653
   exfalso; have h9 := hds.l (by assumption); omega
  have hf655 := hC653
  refine yg hfr638 [50, 51] [] (.a (hB637.cs 3 5) .z) <| yK 52 (yQ (style_any T.saved.sty _) fun w657 hc656 => ?_)
  have hq658 : Ch (fun _ => False) w w657 := Ch.trans hq633 hc656 iZ
  have hq659 : Ch (fun _ => False) w17 w657 := Ch.trans hq634 hc656 iZ
  have hB660 := hB635.ch hc656 id
  refine x_killed <| yg hfr638 [53, 54] [] .z <| yGe (nS ?_)
  refine yc (rN (rY (styleB T.saved.sty))) (fun hC663 => ?_) fun hC663 => ?_
  ·have hf664 := hC663
   exact absurd hf664 (by rw [hds.s]; decide)
  have hf665 := hC663
  refine x_skip (nB (nS ?_))
  refine x_region <| yp 2 [] (.q6 2 .z) <| yE (nU (yU1 ?_))
  refine ysr <| yp 1 [] .z <| ye <| ys <| yct <| yk <| ys <| x_block <| ysr <| yp 2 [] (.i 2 (3) (.a (hB660.cs 16 8) .z)) <| yo (yN [iX 0, iX 0, .bool false, .bool false, .bool false, .bool false, iX 0, iX 0] 32 fun w666 b667 hb668 hz669 hB670 hc671 => ?_)
  have hlo672 : w.heap.size ≤ b667 := by rw [hb668]; exact Ch.size hq658
  have hlo673 : w17.heap.size ≤ b667 := by rw [hb668]; exact Ch.size hq659
  have hq674 : Ch (fun _ => False) w w666 := Ch.trans hq658 hc671 iZ
  have hq675 : Ch (fun _ => False) w17 w666 := Ch.trans hq659 hc671 iZ
  refine yo (yS hB670 fun w679 hB680 hc681 => ?_)
  have hq682 : Ch (fun _ => False) w w679 := Ch.trans hq674 hc681 (fun i hi (h : i = b667) => by have := hlo672; omega)
  have hq683 : Ch (fun _ => False) w17 w679 := Ch.trans hq675 hc681 (fun i hi (h : i = b667) => by have := hlo673; omega)
  replace hB680 : Blk w679 b667 [iX T.away.x, iX T.away.y, .bool T.away.late, .bool T.away.sty.bold, .bool T.away.sty.under, .bool T.away.sty.turned, iX T.away.sty.fore, iX T.away.sty.back] _ := Blk.to hB680 (by kernel_rfl)
  refine ye <| ys <| yD [52] fun w687 hH688 hc689 => ?_
  have hq690 : Ch (fun _ => False) w w687 := Ch.trans hq682 hc689 iZ
  have hq691 : Ch (fun _ => False) w17 w687 := Ch.trans hq683 hc689 iZ
  have hB695 := hB680.ch hc689 id
  refine x_gfree (by kernel_rfl) (fun hfr696 => ?_)
  refine yg hfr696 (uL 0 4) [] (.l (hB695.c 0) .z) <| yv [165] (rL T.away.x 0) (fun hC697 => ?_) fun hC697 => ?_
  ·have hf698 := hC697
   exfalso; have h8 := hda.x; have h9 := hda.y; omega
  have hf699 := hC697
  refine yg hfr696 (uL 4 12) [] (.l (hB695.c 0) (.l (cell_ch hq691 (hI.blk.c 0) id) (.l (cell_ch hq691 (hG1.head.c 0) id) .z))) <| yv [177] (rM T.grid.w T.away.x) (fun hC700 => ?_) fun hC700 => ?_
  ·have hf701 := hC700
   exfalso; have h8 := hda.x; have h9 := hda.y; omega
  have hf702 := hC700
  refine yg hfr696 (uL 16 5) [] (.l (hB695.c 1) .z) <| yv [182] (rL T.away.y 0) (fun hC703 => ?_) fun hC703 => ?_
  ·have hf704 := hC703
   exfalso; have h8 := hda.x; have h9 := hda.y; omega
  have hf705 := hC703
  refine yg hfr696 (uL 21 12) [] (.l (hB695.c 1) (.l (cell_ch hq691 (hI.blk.c 0) id) (.l (cell_ch hq691 (hG1.head.c 1) id) .z))) <| yv [194] (rM T.grid.h T.away.y) (fun hC706 => ?_) fun hC706 => ?_
  ·have hf707 := hC706
   exfalso; have h8 := hda.x; have h9 := hda.y; omega
  have hf708 := hC706
  refine yg hfr696 (uL 33 3) [] (.l (hB695.c 2) .z) <| yv [197] (rY T.away.late) (fun hC709 => ?_) fun hC709 => ?_
  ·have hf710 := hC709
   refine yg hfr696 (uL 36 14) [] (.l (hB695.c 0) (.l (cell_ch hq691 (hI.blk.c 0) id) (.l (cell_ch hq691 (hG1.head.c 0) id) (.q6 (T.grid.w - 1) .z)))) <| yv [211] (rI T.away.x (T.grid.w - 1)) (fun hC711 => ?_) fun hC711 => ?_
   ·have hf712 := hC711
    exfalso; have h9 := hda.l (by assumption); omega
   have hf713 := hC711
   refine yg hfr696 [50, 51] [] (.a (hB695.cs 3 5) .z) <| yK 52 (yQ (style_any T.away.sty _) fun w715 hc714 => ?_)
   have hq716 : Ch (fun _ => False) w w715 := Ch.trans hq690 hc714 iZ
   have hq717 : Ch (fun _ => False) w17 w715 := Ch.trans hq691 hc714 iZ
   refine x_killed <| yg hfr696 [53, 54] [] .z <| yGe (nS ?_)
   refine yc (rN (rY (styleB T.away.sty))) (fun hC722 => ?_) fun hC722 => ?_
   ·have hf723 := hC722
    exact absurd hf723 (by rw [hda.s]; decide)
   have hf724 := hC722
   refine x_skip (nB (nS ?_))
   refine x_region <| yp 2 [] (.q6 3 .z) <| yE (nU (yU1 ?_))
   refine ysr <| yp 1 [] .z <| ye <| ys <| ycf <| x_exit (eS (then_exit (block_exit (nS ?_))))
   refine ys <| ysr <| yp 8 [] (.l (cell_ch hq717 (hI.blk.c 0) id) (.l (cell_ch hq717 (hG1.head.c 1) id) .z)) <| ye <| x_block <| ykeep [0, 3, 224, 225] (f' := [(0, .slice a n cap), (3, pX t), (224, iX T.grid.h), (225, iX 0)]) <| x_loop (σ := Nat) (fun k => [(0, .slice a n cap), (3, pX t), (224, iX T.grid.h), (225, iX ((k : Nat) : Int))]) (fun k u => k ≤ T.grid.h.toNat ∧ Ch (fun _ => False) w715 u) (fun k => T.grid.h.toNat - k) 0 rfl ?_ ?_
   ·exact ⟨Nat.zero_le _, Ch.refl _ _⟩
   intro k w725 hI726 K727 hL728
   obtain ⟨hk, hc729⟩ := hI726
   have hq730 : Ch (fun _ => False) w w725 := Ch.trans hq716 hc729 iZ
   have hq731 : Ch (fun _ => False) w17 w725 := Ch.trans hq717 hc729 iZ
   refine ysr <| yp 1 [] .z <| ye <| ys <| yc (rL ((k : Nat) : Int) T.grid.h) (fun hC732 => ?_) fun hC732 => ?_
   ·have hf733 := hC732
    obtain ⟨qa, hqa, hqam⟩ := rows_at (rows := rw1) (k := k) (by omega)
    obtain ⟨qb, hqb, hqbm⟩ := rows_at (rows := rw2) (k := k) (by omega)
    obtain ⟨hqa1, hqa2, _⟩ := hdg.2 qa.l (by rw [← hG1.lines]; exact List.mem_map_of_mem hqam)
    obtain ⟨hqb1, hqb2, _⟩ := hdg2.2 qb.l (by rw [← hG2.lines]; exact List.mem_map_of_mem hqbm)
    have hqan := (hG1.line qa hqam).2
    have hqbn := (hG2.line qb hqbm).2
    refine yk <| ys <| x_block <| ysr <| yp 2 [] .z <| ye <| ys <| yD [51, 65] fun w734 hH735 hc736 => ?_
    have hq737 : Ch (fun _ => False) w w734 := Ch.trans hq730 hc736 iZ
    have hq738 : Ch (fun _ => False) w17 w734 := Ch.trans hq731 hc736 iZ
    have hq739 : Ch (fun _ => False) w725 w734 := Ch.trans (Ch.refl (fun _ => False) w725) hc736 iZ
    refine x_gfree (by kernel_rfl) (fun hfr740 => ?_)
    refine yg hfr740 (uL 0 20) [] (.l (cell_ch hq738 (hI.blk.c 0) id) (.l (cell_ch hq738 (hG1.head.c 2) id) (.i ((k : Nat) : Int) (rw1.length) (.l (ln_cell (Ch.rd hq738 hG1.body.rd id) hqa) (.l (cell_ch hq738 (hI.blk.c 0) id) (.l (cell_ch hq738 (hG1.head.c 0) id) .z)))))) <| yv [247] (rI ((qa.n : Nat) : Int) T.grid.w) (fun hC741 => ?_) fun hC741 => ?_
    ·have hf742 := hC741
     exfalso; omega
    have hf743 := hC741
    refine yg hfr740 (uL 20 21) [] (.l (cell_ch hq738 (hI.blk.c 1) id) (.l (cell_ch hq738 (hG2.head.c 2) id) (.i ((k : Nat) : Int) (rw2.length) (.l (ln_cell (Ch.rd hq738 hG2.body.rd id) hqb) (.l (cell_ch hq738 (hI.blk.c 0) id) (.l (cell_ch hq738 (hG1.head.c 0) id) .z)))))) <| yv [268] (rI ((qb.n : Nat) : Int) T.grid.w) (fun hC744 => ?_) fun hC744 => ?_
    ·have hf745 := hC744
     exfalso; omega
    have hf746 := hC744
    refine yg hfr740 (uL 41 10) [] (.l (cell_ch hq738 (hI.blk.c 0) id) (.l (cell_ch hq738 (hG1.head.c 2) id) (.i ((k : Nat) : Int) (rw1.length) (.l (ln_cell (Ch.rd hq738 hG1.body.rd id) hqa) .z)))) <| dkeep [0, 3, 7, 224, 225, 268, 278] (f' := [(0, .slice a n cap), (3, pX t), (7, iX ((k : Nat) : Int)), (224, iX T.grid.h), (225, iX ((k : Nat) : Int)), (268, .bool false), (278, .slice (some ⟨qa.b, 0, none⟩) qa.n qa.cap)]) <| yK 51 (yQ (whole_any qa.b qa.n qa.cap qa.l _ (lt_ch hq737 hT (fun b h => h.elim)).tb (Ch.rd hq738 (hG1.line qa hqam).1.rd id) (Nat.lt_of_lt_of_le (hG1.line qa hqam).1.lt (Ch.size hq738)) (hG1.line qa hqam).2 (by omega)) fun w748 hc747 => ?_)
    have hq749 : Ch (fun _ => False) w w748 := Ch.trans hq737 hc747 iZ
    have hq750 : Ch (fun _ => False) w17 w748 := Ch.trans hq738 hc747 iZ
    have hq751 : Ch (fun _ => False) w725 w748 := Ch.trans hq739 hc747 iZ
    refine x_killed <| yg hfr740 (uL 52 3) [] .z <| yv [282] (rN (rY (wholeB qa.l))) (fun hC752 => ?_) fun hC752 => ?_
    ·have hf753 := hC752
     exact absurd hf753 (by rw [hqa2]; decide)
    have hf754 := hC752
    refine yg hfr740 (uL 55 10) [] (.l (cell_ch hq750 (hI.blk.c 1) id) (.l (cell_ch hq750 (hG2.head.c 2) id) (.i ((k : Nat) : Int) (rw2.length) (.l (ln_cell (Ch.rd hq750 hG2.body.rd id) hqb) .z)))) <| yK 65 (yQ (whole_any qb.b qb.n qb.cap qb.l _ (lt_ch hq749 hT (fun b h => h.elim)).tb (Ch.rd hq750 (hG2.line qb hqbm).1.rd id) (Nat.lt_of_lt_of_le (hG2.line qb hqbm).1.lt (Ch.size hq750)) (hG2.line qb hqbm).2 (by omega)) fun w756 hc755 => ?_)
    have hq757 : Ch (fun _ => False) w w756 := Ch.trans hq749 hc755 iZ
    have hq758 : Ch (fun _ => False) w17 w756 := Ch.trans hq750 hc755 iZ
    have hq759 : Ch (fun _ => False) w725 w756 := Ch.trans hq751 hc755 iZ
    refine x_killed <| yg hfr740 [66, 67] [] .z <| yGe (nS ?_)
    refine yc (rN (rY (wholeB qb.l))) (fun hC760 => ?_) fun hC760 => ?_
    ·have hf761 := hC760
     exact absurd hf761 (by rw [hqb2]; decide)
    have hf762 := hC760
    refine x_skip (nB (nS ?_))
    refine x_region <| yp 2 [] (.q6 (((k : Nat) : Int) + 1) .z) <| yE (fun a ha => hL728 (k + 1) _ ⟨by omega, Ch.trans hc729 hq759 iZ⟩ (by show T.grid.h.toNat - (k + 1) < T.grid.h.toNat - k; omega) a (ha.kp [0, 3, 224, 225]))
   have hf763 := hC732
   refine x_exit (eS (then_exit (block_exit (nS ?_))))
   refine ys <| yD [1, 2, 4] fun w764 hH765 hc766 => ?_
   have hq767 : Ch (fun _ => False) w w764 := Ch.trans hq730 hc766 iZ
   have hq768 : Ch (fun _ => False) w17 w764 := Ch.trans hq731 hc766 iZ
   have hq769 : Ch (fun _ => False) w725 w764 := Ch.trans (Ch.refl (fun _ => False) w725) hc766 iZ
   refine yd [0, 3] [] .z <| x_dtwo 1 4 (by kernel_rfl) (by decide) ?_ ?_
   ·refine x_skill 1 _ (by kernel_rfl) rfl (yC (encode_any (TermAt.ch hAt0 hq768 iZ) hDk.enc) ?_)
    rintro _ w777 ⟨o770, n771, cap772, rfl, hO773, hn774, hlo775, hc776⟩
    refine ⟨_, rfl, ?_⟩
    have hq778 : Ch (fun _ => False) w w777 := Ch.trans hq767 hc776 iZ
    have hq779 : Ch (fun _ => False) w17 w777 := Ch.trans hq768 hc776 iZ
    have hq780 : Ch (fun _ => False) w725 w777 := Ch.trans hq769 hc776 iZ
    have hel : (encI T).length = n771 := encI_byts hO773
    refine x_killed <| x_dtwo 2 4 (by kernel_rfl) (by decide) ?_ ?_
    ·refine x_skill 2 _ (by kernel_rfl) rfl (e_bytes (o770.map at0) n771 cap772 (encI T) (some 299) (by kernel_rfl) ((Own.rd hO773).ch (Ch.refl (fun _ => False) w777) iZ) hel ?_)
     refine x_killed <| yK 4 (e_bytes a n cap us (some 301) (by kernel_rfl) (hr.ch hq778 iZ) hl ?_)
     refine x_killed <| yd [5, 6] [] .z <| yDe (nS ?_)
     refine x_ret (yR1 (.bool (((bytesOf (encI T))).toList == ((bytesOf us)).toList)) ?_)
     exact ⟨congrArg Ending.returned (congrArg Value.bool (by rw [hu2]; exact beq_self_eq_true _)), hq778⟩
    refine x_skill 4 _ (by kernel_rfl) rfl (e_bytes a n cap us (some 301) (by kernel_rfl) (hr.ch hq778 iZ) hl ?_)
    refine x_killed <| yK 2 (e_bytes (o770.map at0) n771 cap772 (encI T) (some 299) (by kernel_rfl) ((Own.rd hO773).ch (Ch.refl (fun _ => False) w777) iZ) hel ?_)
    refine x_killed <| yd [5, 6] [] .z <| yDe (nS ?_)
    refine x_ret (yR1 (.bool (((bytesOf (encI T))).toList == ((bytesOf us)).toList)) ?_)
    exact ⟨congrArg Ending.returned (congrArg Value.bool (by rw [hu2]; exact beq_self_eq_true _)), hq778⟩
   refine x_skill 4 _ (by kernel_rfl) rfl (e_bytes a n cap us (some 301) (by kernel_rfl) (hr.ch hq767 iZ) hl ?_)
   refine x_killed <| yK 1 (yC (encode_any (TermAt.ch hAt0 hq768 iZ) hDk.enc) ?_)
   rintro _ w788 ⟨o781, n782, cap783, rfl, hO784, hn785, hlo786, hc787⟩
   refine ⟨_, rfl, ?_⟩
   have hq789 : Ch (fun _ => False) w w788 := Ch.trans hq767 hc787 iZ
   have hq790 : Ch (fun _ => False) w17 w788 := Ch.trans hq768 hc787 iZ
   have hq791 : Ch (fun _ => False) w725 w788 := Ch.trans hq769 hc787 iZ
   have hel : (encI T).length = n782 := encI_byts hO784
   refine x_killed <| yK 2 (e_bytes (o781.map at0) n782 cap783 (encI T) (some 299) (by kernel_rfl) ((Own.rd hO784).ch (Ch.refl (fun _ => False) w788) iZ) hel ?_)
   refine x_killed <| yd [5, 6] [] .z <| yDe (nS ?_)
   refine x_ret (yR1 (.bool (((bytesOf (encI T))).toList == ((bytesOf us)).toList)) ?_)
   exact ⟨congrArg Ending.returned (congrArg Value.bool (by rw [hu2]; exact beq_self_eq_true _)), hq789⟩
  have hf792 := hC709
  refine yg hfr696 (uL 36 16) [] (.a (hB695.cs 3 5) .z) <| yK 52 (yQ (style_any T.away.sty _) fun w794 hc793 => ?_)
  have hq795 : Ch (fun _ => False) w w794 := Ch.trans hq690 hc793 iZ
  have hq796 : Ch (fun _ => False) w17 w794 := Ch.trans hq691 hc793 iZ
  refine x_killed <| yg hfr696 [53, 54] [] .z <| yGe (nS ?_)
  refine yc (rN (rY (styleB T.away.sty))) (fun hC801 => ?_) fun hC801 => ?_
  ·have hf802 := hC801
   exact absurd hf802 (by rw [hda.s]; decide)
  have hf803 := hC801
  refine x_skip (nB (nS ?_))
  refine x_region <| yp 2 [] (.q6 3 .z) <| yE (nU (yU1 ?_))
  refine ysr <| yp 1 [] .z <| ye <| ys <| ycf <| x_exit (eS (then_exit (block_exit (nS ?_))))
  refine ys <| ysr <| yp 8 [] (.l (cell_ch hq796 (hI.blk.c 0) id) (.l (cell_ch hq796 (hG1.head.c 1) id) .z)) <| ye <| x_block <| ykeep [0, 3, 224, 225] (f' := [(0, .slice a n cap), (3, pX t), (224, iX T.grid.h), (225, iX 0)]) <| x_loop (σ := Nat) (fun k => [(0, .slice a n cap), (3, pX t), (224, iX T.grid.h), (225, iX ((k : Nat) : Int))]) (fun k u => k ≤ T.grid.h.toNat ∧ Ch (fun _ => False) w794 u) (fun k => T.grid.h.toNat - k) 0 rfl ?_ ?_
  ·exact ⟨Nat.zero_le _, Ch.refl _ _⟩
  intro k w804 hI805 K806 hL807
  obtain ⟨hk, hc808⟩ := hI805
  have hq809 : Ch (fun _ => False) w w804 := Ch.trans hq795 hc808 iZ
  have hq810 : Ch (fun _ => False) w17 w804 := Ch.trans hq796 hc808 iZ
  refine ysr <| yp 1 [] .z <| ye <| ys <| yc (rL ((k : Nat) : Int) T.grid.h) (fun hC811 => ?_) fun hC811 => ?_
  ·have hf812 := hC811
   obtain ⟨qa, hqa, hqam⟩ := rows_at (rows := rw1) (k := k) (by omega)
   obtain ⟨qb, hqb, hqbm⟩ := rows_at (rows := rw2) (k := k) (by omega)
   obtain ⟨hqa1, hqa2, _⟩ := hdg.2 qa.l (by rw [← hG1.lines]; exact List.mem_map_of_mem hqam)
   obtain ⟨hqb1, hqb2, _⟩ := hdg2.2 qb.l (by rw [← hG2.lines]; exact List.mem_map_of_mem hqbm)
   have hqan := (hG1.line qa hqam).2
   have hqbn := (hG2.line qb hqbm).2
   refine yk <| ys <| x_block <| ysr <| yp 2 [] .z <| ye <| ys <| yD [51, 65] fun w813 hH814 hc815 => ?_
   have hq816 : Ch (fun _ => False) w w813 := Ch.trans hq809 hc815 iZ
   have hq817 : Ch (fun _ => False) w17 w813 := Ch.trans hq810 hc815 iZ
   have hq818 : Ch (fun _ => False) w804 w813 := Ch.trans (Ch.refl (fun _ => False) w804) hc815 iZ
   refine x_gfree (by kernel_rfl) (fun hfr819 => ?_)
   refine yg hfr819 (uL 0 20) [] (.l (cell_ch hq817 (hI.blk.c 0) id) (.l (cell_ch hq817 (hG1.head.c 2) id) (.i ((k : Nat) : Int) (rw1.length) (.l (ln_cell (Ch.rd hq817 hG1.body.rd id) hqa) (.l (cell_ch hq817 (hI.blk.c 0) id) (.l (cell_ch hq817 (hG1.head.c 0) id) .z)))))) <| yv [247] (rI ((qa.n : Nat) : Int) T.grid.w) (fun hC820 => ?_) fun hC820 => ?_
   ·have hf821 := hC820
    exfalso; omega
   have hf822 := hC820
   refine yg hfr819 (uL 20 21) [] (.l (cell_ch hq817 (hI.blk.c 1) id) (.l (cell_ch hq817 (hG2.head.c 2) id) (.i ((k : Nat) : Int) (rw2.length) (.l (ln_cell (Ch.rd hq817 hG2.body.rd id) hqb) (.l (cell_ch hq817 (hI.blk.c 0) id) (.l (cell_ch hq817 (hG1.head.c 0) id) .z)))))) <| yv [268] (rI ((qb.n : Nat) : Int) T.grid.w) (fun hC823 => ?_) fun hC823 => ?_
   ·have hf824 := hC823
    exfalso; omega
   have hf825 := hC823
   refine yg hfr819 (uL 41 10) [] (.l (cell_ch hq817 (hI.blk.c 0) id) (.l (cell_ch hq817 (hG1.head.c 2) id) (.i ((k : Nat) : Int) (rw1.length) (.l (ln_cell (Ch.rd hq817 hG1.body.rd id) hqa) .z)))) <| dkeep [0, 3, 7, 224, 225, 268, 278] (f' := [(0, .slice a n cap), (3, pX t), (7, iX ((k : Nat) : Int)), (224, iX T.grid.h), (225, iX ((k : Nat) : Int)), (268, .bool false), (278, .slice (some ⟨qa.b, 0, none⟩) qa.n qa.cap)]) <| yK 51 (yQ (whole_any qa.b qa.n qa.cap qa.l _ (lt_ch hq816 hT (fun b h => h.elim)).tb (Ch.rd hq817 (hG1.line qa hqam).1.rd id) (Nat.lt_of_lt_of_le (hG1.line qa hqam).1.lt (Ch.size hq817)) (hG1.line qa hqam).2 (by omega)) fun w827 hc826 => ?_)
   have hq828 : Ch (fun _ => False) w w827 := Ch.trans hq816 hc826 iZ
   have hq829 : Ch (fun _ => False) w17 w827 := Ch.trans hq817 hc826 iZ
   have hq830 : Ch (fun _ => False) w804 w827 := Ch.trans hq818 hc826 iZ
   refine x_killed <| yg hfr819 (uL 52 3) [] .z <| yv [282] (rN (rY (wholeB qa.l))) (fun hC831 => ?_) fun hC831 => ?_
   ·have hf832 := hC831
    exact absurd hf832 (by rw [hqa2]; decide)
   have hf833 := hC831
   refine yg hfr819 (uL 55 10) [] (.l (cell_ch hq829 (hI.blk.c 1) id) (.l (cell_ch hq829 (hG2.head.c 2) id) (.i ((k : Nat) : Int) (rw2.length) (.l (ln_cell (Ch.rd hq829 hG2.body.rd id) hqb) .z)))) <| yK 65 (yQ (whole_any qb.b qb.n qb.cap qb.l _ (lt_ch hq828 hT (fun b h => h.elim)).tb (Ch.rd hq829 (hG2.line qb hqbm).1.rd id) (Nat.lt_of_lt_of_le (hG2.line qb hqbm).1.lt (Ch.size hq829)) (hG2.line qb hqbm).2 (by omega)) fun w835 hc834 => ?_)
   have hq836 : Ch (fun _ => False) w w835 := Ch.trans hq828 hc834 iZ
   have hq837 : Ch (fun _ => False) w17 w835 := Ch.trans hq829 hc834 iZ
   have hq838 : Ch (fun _ => False) w804 w835 := Ch.trans hq830 hc834 iZ
   refine x_killed <| yg hfr819 [66, 67] [] .z <| yGe (nS ?_)
   refine yc (rN (rY (wholeB qb.l))) (fun hC839 => ?_) fun hC839 => ?_
   ·have hf840 := hC839
    exact absurd hf840 (by rw [hqb2]; decide)
   have hf841 := hC839
   refine x_skip (nB (nS ?_))
   refine x_region <| yp 2 [] (.q6 (((k : Nat) : Int) + 1) .z) <| yE (fun a ha => hL807 (k + 1) _ ⟨by omega, Ch.trans hc808 hq838 iZ⟩ (by show T.grid.h.toNat - (k + 1) < T.grid.h.toNat - k; omega) a (ha.kp [0, 3, 224, 225]))
  have hf842 := hC811
  refine x_exit (eS (then_exit (block_exit (nS ?_))))
  refine ys <| yD [1, 2, 4] fun w843 hH844 hc845 => ?_
  have hq846 : Ch (fun _ => False) w w843 := Ch.trans hq809 hc845 iZ
  have hq847 : Ch (fun _ => False) w17 w843 := Ch.trans hq810 hc845 iZ
  have hq848 : Ch (fun _ => False) w804 w843 := Ch.trans (Ch.refl (fun _ => False) w804) hc845 iZ
  refine yd [0, 3] [] .z <| x_dtwo 1 4 (by kernel_rfl) (by decide) ?_ ?_
  ·refine x_skill 1 _ (by kernel_rfl) rfl (yC (encode_any (TermAt.ch hAt0 hq847 iZ) hDk.enc) ?_)
   rintro _ w856 ⟨o849, n850, cap851, rfl, hO852, hn853, hlo854, hc855⟩
   refine ⟨_, rfl, ?_⟩
   have hq857 : Ch (fun _ => False) w w856 := Ch.trans hq846 hc855 iZ
   have hq858 : Ch (fun _ => False) w17 w856 := Ch.trans hq847 hc855 iZ
   have hq859 : Ch (fun _ => False) w804 w856 := Ch.trans hq848 hc855 iZ
   have hel : (encI T).length = n850 := encI_byts hO852
   refine x_killed <| x_dtwo 2 4 (by kernel_rfl) (by decide) ?_ ?_
   ·refine x_skill 2 _ (by kernel_rfl) rfl (e_bytes (o849.map at0) n850 cap851 (encI T) (some 299) (by kernel_rfl) ((Own.rd hO852).ch (Ch.refl (fun _ => False) w856) iZ) hel ?_)
    refine x_killed <| yK 4 (e_bytes a n cap us (some 301) (by kernel_rfl) (hr.ch hq857 iZ) hl ?_)
    refine x_killed <| yd [5, 6] [] .z <| yDe (nS ?_)
    refine x_ret (yR1 (.bool (((bytesOf (encI T))).toList == ((bytesOf us)).toList)) ?_)
    exact ⟨congrArg Ending.returned (congrArg Value.bool (by rw [hu2]; exact beq_self_eq_true _)), hq857⟩
   refine x_skill 4 _ (by kernel_rfl) rfl (e_bytes a n cap us (some 301) (by kernel_rfl) (hr.ch hq857 iZ) hl ?_)
   refine x_killed <| yK 2 (e_bytes (o849.map at0) n850 cap851 (encI T) (some 299) (by kernel_rfl) ((Own.rd hO852).ch (Ch.refl (fun _ => False) w856) iZ) hel ?_)
   refine x_killed <| yd [5, 6] [] .z <| yDe (nS ?_)
   refine x_ret (yR1 (.bool (((bytesOf (encI T))).toList == ((bytesOf us)).toList)) ?_)
   exact ⟨congrArg Ending.returned (congrArg Value.bool (by rw [hu2]; exact beq_self_eq_true _)), hq857⟩
  refine x_skill 4 _ (by kernel_rfl) rfl (e_bytes a n cap us (some 301) (by kernel_rfl) (hr.ch hq846 iZ) hl ?_)
  refine x_killed <| yK 1 (yC (encode_any (TermAt.ch hAt0 hq847 iZ) hDk.enc) ?_)
  rintro _ w867 ⟨o860, n861, cap862, rfl, hO863, hn864, hlo865, hc866⟩
  refine ⟨_, rfl, ?_⟩
  have hq868 : Ch (fun _ => False) w w867 := Ch.trans hq846 hc866 iZ
  have hq869 : Ch (fun _ => False) w17 w867 := Ch.trans hq847 hc866 iZ
  have hq870 : Ch (fun _ => False) w804 w867 := Ch.trans hq848 hc866 iZ
  have hel : (encI T).length = n861 := encI_byts hO863
  refine x_killed <| yK 2 (e_bytes (o860.map at0) n861 cap862 (encI T) (some 299) (by kernel_rfl) ((Own.rd hO863).ch (Ch.refl (fun _ => False) w867) iZ) hel ?_)
  refine x_killed <| yd [5, 6] [] .z <| yDe (nS ?_)
  refine x_ret (yR1 (.bool (((bytesOf (encI T))).toList == ((bytesOf us)).toList)) ?_)
  exact ⟨congrArg Ending.returned (congrArg Value.bool (by rw [hu2]; exact beq_self_eq_true _)), hq868⟩
 have hf871 := hC651
 refine yg hfr638 (uL 36 16) [] (.a (hB637.cs 3 5) .z) <| dkeep [0, 3, 156, 157, 158, 211, 213] (f' := [(0, .slice a n cap), (3, pX t), (156, .slice (some ⟨b65, 0, none⟩) 3 3), (157, iX 3), (158, iX 1), (211, .bool false), (213, .agg #[.bool T.saved.sty.bold, .bool T.saved.sty.under, .bool T.saved.sty.turned, iX T.saved.sty.fore, iX T.saved.sty.back])]) <| yK 52 (yQ (style_any T.saved.sty _) fun w873 hc872 => ?_)
 have hq874 : Ch (fun _ => False) w w873 := Ch.trans hq633 hc872 iZ
 have hq875 : Ch (fun _ => False) w17 w873 := Ch.trans hq634 hc872 iZ
 have hB876 := hB635.ch hc872 id
 refine x_killed <| yg hfr638 [53, 54] [] .z <| yGe (nS ?_)
 refine yc (rN (rY (styleB T.saved.sty))) (fun hC879 => ?_) fun hC879 => ?_
 ·have hf880 := hC879
  exact absurd hf880 (by rw [hds.s]; decide)
 have hf881 := hC879
 refine x_skip (nB (nS ?_))
 refine x_region <| yp 2 [] (.q6 2 .z) <| yE (nU (yU1 ?_))
 refine ysr <| yp 1 [] .z <| ye <| ys <| yct <| yk <| ys <| x_block <| ysr <| yp 2 [] (.i 2 (3) (.a (hB876.cs 16 8) .z)) <| yo (yN [iX 0, iX 0, .bool false, .bool false, .bool false, .bool false, iX 0, iX 0] 32 fun w882 b883 hb884 hz885 hB886 hc887 => ?_)
 have hlo888 : w.heap.size ≤ b883 := by rw [hb884]; exact Ch.size hq874
 have hlo889 : w17.heap.size ≤ b883 := by rw [hb884]; exact Ch.size hq875
 have hq890 : Ch (fun _ => False) w w882 := Ch.trans hq874 hc887 iZ
 have hq891 : Ch (fun _ => False) w17 w882 := Ch.trans hq875 hc887 iZ
 refine yo (yS hB886 fun w895 hB896 hc897 => ?_)
 have hq898 : Ch (fun _ => False) w w895 := Ch.trans hq890 hc897 (fun i hi (h : i = b883) => by have := hlo888; omega)
 have hq899 : Ch (fun _ => False) w17 w895 := Ch.trans hq891 hc897 (fun i hi (h : i = b883) => by have := hlo889; omega)
 replace hB896 : Blk w895 b883 [iX T.away.x, iX T.away.y, .bool T.away.late, .bool T.away.sty.bold, .bool T.away.sty.under, .bool T.away.sty.turned, iX T.away.sty.fore, iX T.away.sty.back] _ := Blk.to hB896 (by kernel_rfl)
 refine ye <| ys <| yD [52] fun w903 hH904 hc905 => ?_
 have hq906 : Ch (fun _ => False) w w903 := Ch.trans hq898 hc905 iZ
 have hq907 : Ch (fun _ => False) w17 w903 := Ch.trans hq899 hc905 iZ
 have hB911 := hB896.ch hc905 id
 refine x_gfree (by kernel_rfl) (fun hfr912 => ?_)
 refine yg hfr912 (uL 0 4) [] (.l (hB911.c 0) .z) <| yv [165] (rL T.away.x 0) (fun hC913 => ?_) fun hC913 => ?_
 ·have hf914 := hC913
  exfalso; have h8 := hda.x; have h9 := hda.y; omega
 have hf915 := hC913
 refine yg hfr912 (uL 4 12) [] (.l (hB911.c 0) (.l (cell_ch hq907 (hI.blk.c 0) id) (.l (cell_ch hq907 (hG1.head.c 0) id) .z))) <| yv [177] (rM T.grid.w T.away.x) (fun hC916 => ?_) fun hC916 => ?_
 ·have hf917 := hC916
  exfalso; have h8 := hda.x; have h9 := hda.y; omega
 have hf918 := hC916
 refine yg hfr912 (uL 16 5) [] (.l (hB911.c 1) .z) <| yv [182] (rL T.away.y 0) (fun hC919 => ?_) fun hC919 => ?_
 ·have hf920 := hC919
  exfalso; have h8 := hda.x; have h9 := hda.y; omega
 have hf921 := hC919
 refine yg hfr912 (uL 21 12) [] (.l (hB911.c 1) (.l (cell_ch hq907 (hI.blk.c 0) id) (.l (cell_ch hq907 (hG1.head.c 1) id) .z))) <| yv [194] (rM T.grid.h T.away.y) (fun hC922 => ?_) fun hC922 => ?_
 ·have hf923 := hC922
  exfalso; have h8 := hda.x; have h9 := hda.y; omega
 have hf924 := hC922
 refine yg hfr912 (uL 33 3) [] (.l (hB911.c 2) .z) <| yv [197] (rY T.away.late) (fun hC925 => ?_) fun hC925 => ?_
 ·have hf926 := hC925
  refine yg hfr912 (uL 36 14) [] (.l (hB911.c 0) (.l (cell_ch hq907 (hI.blk.c 0) id) (.l (cell_ch hq907 (hG1.head.c 0) id) (.q6 (T.grid.w - 1) .z)))) <| yv [211] (rI T.away.x (T.grid.w - 1)) (fun hC927 => ?_) fun hC927 => ?_
  ·have hf928 := hC927
   exfalso; have h9 := hda.l (by assumption); omega
  have hf929 := hC927
  refine yg hfr912 [50, 51] [] (.a (hB911.cs 3 5) .z) <| yK 52 (yQ (style_any T.away.sty _) fun w931 hc930 => ?_)
  have hq932 : Ch (fun _ => False) w w931 := Ch.trans hq906 hc930 iZ
  have hq933 : Ch (fun _ => False) w17 w931 := Ch.trans hq907 hc930 iZ
  refine x_killed <| yg hfr912 [53, 54] [] .z <| yGe (nS ?_)
  refine yc (rN (rY (styleB T.away.sty))) (fun hC938 => ?_) fun hC938 => ?_
  ·have hf939 := hC938
   exact absurd hf939 (by rw [hda.s]; decide)
  have hf940 := hC938
  refine x_skip (nB (nS ?_))
  refine x_region <| yp 2 [] (.q6 3 .z) <| yE (nU (yU1 ?_))
  refine ysr <| yp 1 [] .z <| ye <| ys <| ycf <| x_exit (eS (then_exit (block_exit (nS ?_))))
  refine ys <| ysr <| yp 8 [] (.l (cell_ch hq933 (hI.blk.c 0) id) (.l (cell_ch hq933 (hG1.head.c 1) id) .z)) <| ye <| x_block <| ykeep [0, 3, 224, 225] (f' := [(0, .slice a n cap), (3, pX t), (224, iX T.grid.h), (225, iX 0)]) <| x_loop (σ := Nat) (fun k => [(0, .slice a n cap), (3, pX t), (224, iX T.grid.h), (225, iX ((k : Nat) : Int))]) (fun k u => k ≤ T.grid.h.toNat ∧ Ch (fun _ => False) w931 u) (fun k => T.grid.h.toNat - k) 0 rfl ?_ ?_
  ·exact ⟨Nat.zero_le _, Ch.refl _ _⟩
  intro k w941 hI942 K943 hL944
  obtain ⟨hk, hc945⟩ := hI942
  have hq946 : Ch (fun _ => False) w w941 := Ch.trans hq932 hc945 iZ
  have hq947 : Ch (fun _ => False) w17 w941 := Ch.trans hq933 hc945 iZ
  refine ysr <| yp 1 [] .z <| ye <| ys <| yc (rL ((k : Nat) : Int) T.grid.h) (fun hC948 => ?_) fun hC948 => ?_
  ·have hf949 := hC948
   obtain ⟨qa, hqa, hqam⟩ := rows_at (rows := rw1) (k := k) (by omega)
   obtain ⟨qb, hqb, hqbm⟩ := rows_at (rows := rw2) (k := k) (by omega)
   obtain ⟨hqa1, hqa2, _⟩ := hdg.2 qa.l (by rw [← hG1.lines]; exact List.mem_map_of_mem hqam)
   obtain ⟨hqb1, hqb2, _⟩ := hdg2.2 qb.l (by rw [← hG2.lines]; exact List.mem_map_of_mem hqbm)
   have hqan := (hG1.line qa hqam).2
   have hqbn := (hG2.line qb hqbm).2
   refine yk <| ys <| x_block <| ysr <| yp 2 [] .z <| ye <| ys <| yD [51, 65] fun w950 hH951 hc952 => ?_
   have hq953 : Ch (fun _ => False) w w950 := Ch.trans hq946 hc952 iZ
   have hq954 : Ch (fun _ => False) w17 w950 := Ch.trans hq947 hc952 iZ
   have hq955 : Ch (fun _ => False) w941 w950 := Ch.trans (Ch.refl (fun _ => False) w941) hc952 iZ
   refine x_gfree (by kernel_rfl) (fun hfr956 => ?_)
   refine yg hfr956 (uL 0 20) [] (.l (cell_ch hq954 (hI.blk.c 0) id) (.l (cell_ch hq954 (hG1.head.c 2) id) (.i ((k : Nat) : Int) (rw1.length) (.l (ln_cell (Ch.rd hq954 hG1.body.rd id) hqa) (.l (cell_ch hq954 (hI.blk.c 0) id) (.l (cell_ch hq954 (hG1.head.c 0) id) .z)))))) <| yv [247] (rI ((qa.n : Nat) : Int) T.grid.w) (fun hC957 => ?_) fun hC957 => ?_
   ·have hf958 := hC957
    exfalso; omega
   have hf959 := hC957
   refine yg hfr956 (uL 20 21) [] (.l (cell_ch hq954 (hI.blk.c 1) id) (.l (cell_ch hq954 (hG2.head.c 2) id) (.i ((k : Nat) : Int) (rw2.length) (.l (ln_cell (Ch.rd hq954 hG2.body.rd id) hqb) (.l (cell_ch hq954 (hI.blk.c 0) id) (.l (cell_ch hq954 (hG1.head.c 0) id) .z)))))) <| yv [268] (rI ((qb.n : Nat) : Int) T.grid.w) (fun hC960 => ?_) fun hC960 => ?_
   ·have hf961 := hC960
    exfalso; omega
   have hf962 := hC960
   refine yg hfr956 (uL 41 10) [] (.l (cell_ch hq954 (hI.blk.c 0) id) (.l (cell_ch hq954 (hG1.head.c 2) id) (.i ((k : Nat) : Int) (rw1.length) (.l (ln_cell (Ch.rd hq954 hG1.body.rd id) hqa) .z)))) <| dkeep [0, 3, 7, 224, 225, 268, 278] (f' := [(0, .slice a n cap), (3, pX t), (7, iX ((k : Nat) : Int)), (224, iX T.grid.h), (225, iX ((k : Nat) : Int)), (268, .bool false), (278, .slice (some ⟨qa.b, 0, none⟩) qa.n qa.cap)]) <| yK 51 (yQ (whole_any qa.b qa.n qa.cap qa.l _ (lt_ch hq953 hT (fun b h => h.elim)).tb (Ch.rd hq954 (hG1.line qa hqam).1.rd id) (Nat.lt_of_lt_of_le (hG1.line qa hqam).1.lt (Ch.size hq954)) (hG1.line qa hqam).2 (by omega)) fun w964 hc963 => ?_)
   have hq965 : Ch (fun _ => False) w w964 := Ch.trans hq953 hc963 iZ
   have hq966 : Ch (fun _ => False) w17 w964 := Ch.trans hq954 hc963 iZ
   have hq967 : Ch (fun _ => False) w941 w964 := Ch.trans hq955 hc963 iZ
   refine x_killed <| yg hfr956 (uL 52 3) [] .z <| yv [282] (rN (rY (wholeB qa.l))) (fun hC968 => ?_) fun hC968 => ?_
   ·have hf969 := hC968
    exact absurd hf969 (by rw [hqa2]; decide)
   have hf970 := hC968
   refine yg hfr956 (uL 55 10) [] (.l (cell_ch hq966 (hI.blk.c 1) id) (.l (cell_ch hq966 (hG2.head.c 2) id) (.i ((k : Nat) : Int) (rw2.length) (.l (ln_cell (Ch.rd hq966 hG2.body.rd id) hqb) .z)))) <| yK 65 (yQ (whole_any qb.b qb.n qb.cap qb.l _ (lt_ch hq965 hT (fun b h => h.elim)).tb (Ch.rd hq966 (hG2.line qb hqbm).1.rd id) (Nat.lt_of_lt_of_le (hG2.line qb hqbm).1.lt (Ch.size hq966)) (hG2.line qb hqbm).2 (by omega)) fun w972 hc971 => ?_)
   have hq973 : Ch (fun _ => False) w w972 := Ch.trans hq965 hc971 iZ
   have hq974 : Ch (fun _ => False) w17 w972 := Ch.trans hq966 hc971 iZ
   have hq975 : Ch (fun _ => False) w941 w972 := Ch.trans hq967 hc971 iZ
   refine x_killed <| yg hfr956 [66, 67] [] .z <| yGe (nS ?_)
   refine yc (rN (rY (wholeB qb.l))) (fun hC976 => ?_) fun hC976 => ?_
   ·have hf977 := hC976
    exact absurd hf977 (by rw [hqb2]; decide)
   have hf978 := hC976
   refine x_skip (nB (nS ?_))
   refine x_region <| yp 2 [] (.q6 (((k : Nat) : Int) + 1) .z) <| yE (fun a ha => hL944 (k + 1) _ ⟨by omega, Ch.trans hc945 hq975 iZ⟩ (by show T.grid.h.toNat - (k + 1) < T.grid.h.toNat - k; omega) a (ha.kp [0, 3, 224, 225]))
  have hf979 := hC948
  refine x_exit (eS (then_exit (block_exit (nS ?_))))
  refine ys <| yD [1, 2, 4] fun w980 hH981 hc982 => ?_
  have hq983 : Ch (fun _ => False) w w980 := Ch.trans hq946 hc982 iZ
  have hq984 : Ch (fun _ => False) w17 w980 := Ch.trans hq947 hc982 iZ
  have hq985 : Ch (fun _ => False) w941 w980 := Ch.trans (Ch.refl (fun _ => False) w941) hc982 iZ
  refine yd [0, 3] [] .z <| x_dtwo 1 4 (by kernel_rfl) (by decide) ?_ ?_
  ·refine x_skill 1 _ (by kernel_rfl) rfl (yC (encode_any (TermAt.ch hAt0 hq984 iZ) hDk.enc) ?_)
   rintro _ w993 ⟨o986, n987, cap988, rfl, hO989, hn990, hlo991, hc992⟩
   refine ⟨_, rfl, ?_⟩
   have hq994 : Ch (fun _ => False) w w993 := Ch.trans hq983 hc992 iZ
   have hq995 : Ch (fun _ => False) w17 w993 := Ch.trans hq984 hc992 iZ
   have hq996 : Ch (fun _ => False) w941 w993 := Ch.trans hq985 hc992 iZ
   have hel : (encI T).length = n987 := encI_byts hO989
   refine x_killed <| x_dtwo 2 4 (by kernel_rfl) (by decide) ?_ ?_
   ·refine x_skill 2 _ (by kernel_rfl) rfl (e_bytes (o986.map at0) n987 cap988 (encI T) (some 299) (by kernel_rfl) ((Own.rd hO989).ch (Ch.refl (fun _ => False) w993) iZ) hel ?_)
    refine x_killed <| yK 4 (e_bytes a n cap us (some 301) (by kernel_rfl) (hr.ch hq994 iZ) hl ?_)
    refine x_killed <| yd [5, 6] [] .z <| yDe (nS ?_)
    refine x_ret (yR1 (.bool (((bytesOf (encI T))).toList == ((bytesOf us)).toList)) ?_)
    exact ⟨congrArg Ending.returned (congrArg Value.bool (by rw [hu2]; exact beq_self_eq_true _)), hq994⟩
   refine x_skill 4 _ (by kernel_rfl) rfl (e_bytes a n cap us (some 301) (by kernel_rfl) (hr.ch hq994 iZ) hl ?_)
   refine x_killed <| yK 2 (e_bytes (o986.map at0) n987 cap988 (encI T) (some 299) (by kernel_rfl) ((Own.rd hO989).ch (Ch.refl (fun _ => False) w993) iZ) hel ?_)
   refine x_killed <| yd [5, 6] [] .z <| yDe (nS ?_)
   refine x_ret (yR1 (.bool (((bytesOf (encI T))).toList == ((bytesOf us)).toList)) ?_)
   exact ⟨congrArg Ending.returned (congrArg Value.bool (by rw [hu2]; exact beq_self_eq_true _)), hq994⟩
  refine x_skill 4 _ (by kernel_rfl) rfl (e_bytes a n cap us (some 301) (by kernel_rfl) (hr.ch hq983 iZ) hl ?_)
  refine x_killed <| yK 1 (yC (encode_any (TermAt.ch hAt0 hq984 iZ) hDk.enc) ?_)
  rintro _ w1004 ⟨o997, n998, cap999, rfl, hO1000, hn1001, hlo1002, hc1003⟩
  refine ⟨_, rfl, ?_⟩
  have hq1005 : Ch (fun _ => False) w w1004 := Ch.trans hq983 hc1003 iZ
  have hq1006 : Ch (fun _ => False) w17 w1004 := Ch.trans hq984 hc1003 iZ
  have hq1007 : Ch (fun _ => False) w941 w1004 := Ch.trans hq985 hc1003 iZ
  have hel : (encI T).length = n998 := encI_byts hO1000
  refine x_killed <| yK 2 (e_bytes (o997.map at0) n998 cap999 (encI T) (some 299) (by kernel_rfl) ((Own.rd hO1000).ch (Ch.refl (fun _ => False) w1004) iZ) hel ?_)
  refine x_killed <| yd [5, 6] [] .z <| yDe (nS ?_)
  refine x_ret (yR1 (.bool (((bytesOf (encI T))).toList == ((bytesOf us)).toList)) ?_)
  exact ⟨congrArg Ending.returned (congrArg Value.bool (by rw [hu2]; exact beq_self_eq_true _)), hq1005⟩
 have hf1008 := hC925
 refine yg hfr912 (uL 36 16) [] (.a (hB911.cs 3 5) .z) <| yK 52 (yQ (style_any T.away.sty _) fun w1010 hc1009 => ?_)
 have hq1011 : Ch (fun _ => False) w w1010 := Ch.trans hq906 hc1009 iZ
 have hq1012 : Ch (fun _ => False) w17 w1010 := Ch.trans hq907 hc1009 iZ
 refine x_killed <| yg hfr912 [53, 54] [] .z <| yGe (nS ?_)
 refine yc (rN (rY (styleB T.away.sty))) (fun hC1017 => ?_) fun hC1017 => ?_
 ·have hf1018 := hC1017
  exact absurd hf1018 (by rw [hda.s]; decide)
 have hf1019 := hC1017
 refine x_skip (nB (nS ?_))
 refine x_region <| yp 2 [] (.q6 3 .z) <| yE (nU (yU1 ?_))
 refine ysr <| yp 1 [] .z <| ye <| ys <| ycf <| x_exit (eS (then_exit (block_exit (nS ?_))))
 refine ys <| ysr <| yp 8 [] (.l (cell_ch hq1012 (hI.blk.c 0) id) (.l (cell_ch hq1012 (hG1.head.c 1) id) .z)) <| ye <| x_block <| ykeep [0, 3, 224, 225] (f' := [(0, .slice a n cap), (3, pX t), (224, iX T.grid.h), (225, iX 0)]) <| x_loop (σ := Nat) (fun k => [(0, .slice a n cap), (3, pX t), (224, iX T.grid.h), (225, iX ((k : Nat) : Int))]) (fun k u => k ≤ T.grid.h.toNat ∧ Ch (fun _ => False) w1010 u) (fun k => T.grid.h.toNat - k) 0 rfl ?_ ?_
 ·exact ⟨Nat.zero_le _, Ch.refl _ _⟩
 intro k w1020 hI1021 K1022 hL1023
 obtain ⟨hk, hc1024⟩ := hI1021
 have hq1025 : Ch (fun _ => False) w w1020 := Ch.trans hq1011 hc1024 iZ
 have hq1026 : Ch (fun _ => False) w17 w1020 := Ch.trans hq1012 hc1024 iZ
 refine ysr <| yp 1 [] .z <| ye <| ys <| yc (rL ((k : Nat) : Int) T.grid.h) (fun hC1027 => ?_) fun hC1027 => ?_
 ·have hf1028 := hC1027
  obtain ⟨qa, hqa, hqam⟩ := rows_at (rows := rw1) (k := k) (by omega)
  obtain ⟨qb, hqb, hqbm⟩ := rows_at (rows := rw2) (k := k) (by omega)
  obtain ⟨hqa1, hqa2, _⟩ := hdg.2 qa.l (by rw [← hG1.lines]; exact List.mem_map_of_mem hqam)
  obtain ⟨hqb1, hqb2, _⟩ := hdg2.2 qb.l (by rw [← hG2.lines]; exact List.mem_map_of_mem hqbm)
  have hqan := (hG1.line qa hqam).2
  have hqbn := (hG2.line qb hqbm).2
  refine yk <| ys <| x_block <| ysr <| yp 2 [] .z <| ye <| ys <| yD [51, 65] fun w1029 hH1030 hc1031 => ?_
  have hq1032 : Ch (fun _ => False) w w1029 := Ch.trans hq1025 hc1031 iZ
  have hq1033 : Ch (fun _ => False) w17 w1029 := Ch.trans hq1026 hc1031 iZ
  have hq1034 : Ch (fun _ => False) w1020 w1029 := Ch.trans (Ch.refl (fun _ => False) w1020) hc1031 iZ
  refine x_gfree (by kernel_rfl) (fun hfr1035 => ?_)
  refine yg hfr1035 (uL 0 20) [] (.l (cell_ch hq1033 (hI.blk.c 0) id) (.l (cell_ch hq1033 (hG1.head.c 2) id) (.i ((k : Nat) : Int) (rw1.length) (.l (ln_cell (Ch.rd hq1033 hG1.body.rd id) hqa) (.l (cell_ch hq1033 (hI.blk.c 0) id) (.l (cell_ch hq1033 (hG1.head.c 0) id) .z)))))) <| yv [247] (rI ((qa.n : Nat) : Int) T.grid.w) (fun hC1036 => ?_) fun hC1036 => ?_
  ·have hf1037 := hC1036
   exfalso; omega
  have hf1038 := hC1036
  refine yg hfr1035 (uL 20 21) [] (.l (cell_ch hq1033 (hI.blk.c 1) id) (.l (cell_ch hq1033 (hG2.head.c 2) id) (.i ((k : Nat) : Int) (rw2.length) (.l (ln_cell (Ch.rd hq1033 hG2.body.rd id) hqb) (.l (cell_ch hq1033 (hI.blk.c 0) id) (.l (cell_ch hq1033 (hG1.head.c 0) id) .z)))))) <| yv [268] (rI ((qb.n : Nat) : Int) T.grid.w) (fun hC1039 => ?_) fun hC1039 => ?_
  ·have hf1040 := hC1039
   exfalso; omega
  have hf1041 := hC1039
  refine yg hfr1035 (uL 41 10) [] (.l (cell_ch hq1033 (hI.blk.c 0) id) (.l (cell_ch hq1033 (hG1.head.c 2) id) (.i ((k : Nat) : Int) (rw1.length) (.l (ln_cell (Ch.rd hq1033 hG1.body.rd id) hqa) .z)))) <| dkeep [0, 3, 7, 224, 225, 268, 278] (f' := [(0, .slice a n cap), (3, pX t), (7, iX ((k : Nat) : Int)), (224, iX T.grid.h), (225, iX ((k : Nat) : Int)), (268, .bool false), (278, .slice (some ⟨qa.b, 0, none⟩) qa.n qa.cap)]) <| yK 51 (yQ (whole_any qa.b qa.n qa.cap qa.l _ (lt_ch hq1032 hT (fun b h => h.elim)).tb (Ch.rd hq1033 (hG1.line qa hqam).1.rd id) (Nat.lt_of_lt_of_le (hG1.line qa hqam).1.lt (Ch.size hq1033)) (hG1.line qa hqam).2 (by omega)) fun w1043 hc1042 => ?_)
  have hq1044 : Ch (fun _ => False) w w1043 := Ch.trans hq1032 hc1042 iZ
  have hq1045 : Ch (fun _ => False) w17 w1043 := Ch.trans hq1033 hc1042 iZ
  have hq1046 : Ch (fun _ => False) w1020 w1043 := Ch.trans hq1034 hc1042 iZ
  refine x_killed <| yg hfr1035 (uL 52 3) [] .z <| yv [282] (rN (rY (wholeB qa.l))) (fun hC1047 => ?_) fun hC1047 => ?_
  ·have hf1048 := hC1047
   exact absurd hf1048 (by rw [hqa2]; decide)
  have hf1049 := hC1047
  refine yg hfr1035 (uL 55 10) [] (.l (cell_ch hq1045 (hI.blk.c 1) id) (.l (cell_ch hq1045 (hG2.head.c 2) id) (.i ((k : Nat) : Int) (rw2.length) (.l (ln_cell (Ch.rd hq1045 hG2.body.rd id) hqb) .z)))) <| yK 65 (yQ (whole_any qb.b qb.n qb.cap qb.l _ (lt_ch hq1044 hT (fun b h => h.elim)).tb (Ch.rd hq1045 (hG2.line qb hqbm).1.rd id) (Nat.lt_of_lt_of_le (hG2.line qb hqbm).1.lt (Ch.size hq1045)) (hG2.line qb hqbm).2 (by omega)) fun w1051 hc1050 => ?_)
  have hq1052 : Ch (fun _ => False) w w1051 := Ch.trans hq1044 hc1050 iZ
  have hq1053 : Ch (fun _ => False) w17 w1051 := Ch.trans hq1045 hc1050 iZ
  have hq1054 : Ch (fun _ => False) w1020 w1051 := Ch.trans hq1046 hc1050 iZ
  refine x_killed <| yg hfr1035 [66, 67] [] .z <| yGe (nS ?_)
  refine yc (rN (rY (wholeB qb.l))) (fun hC1055 => ?_) fun hC1055 => ?_
  ·have hf1056 := hC1055
   exact absurd hf1056 (by rw [hqb2]; decide)
  have hf1057 := hC1055
  refine x_skip (nB (nS ?_))
  refine x_region <| yp 2 [] (.q6 (((k : Nat) : Int) + 1) .z) <| yE (fun a ha => hL1023 (k + 1) _ ⟨by omega, Ch.trans hc1024 hq1054 iZ⟩ (by show T.grid.h.toNat - (k + 1) < T.grid.h.toNat - k; omega) a (ha.kp [0, 3, 224, 225]))
 have hf1058 := hC1027
 refine x_exit (eS (then_exit (block_exit (nS ?_))))
 refine ys <| yD [1, 2, 4] fun w1059 hH1060 hc1061 => ?_
 have hq1062 : Ch (fun _ => False) w w1059 := Ch.trans hq1025 hc1061 iZ
 have hq1063 : Ch (fun _ => False) w17 w1059 := Ch.trans hq1026 hc1061 iZ
 have hq1064 : Ch (fun _ => False) w1020 w1059 := Ch.trans (Ch.refl (fun _ => False) w1020) hc1061 iZ
 refine yd [0, 3] [] .z <| x_dtwo 1 4 (by kernel_rfl) (by decide) ?_ ?_
 ·refine x_skill 1 _ (by kernel_rfl) rfl (yC (encode_any (TermAt.ch hAt0 hq1063 iZ) hDk.enc) ?_)
  rintro _ w1072 ⟨o1065, n1066, cap1067, rfl, hO1068, hn1069, hlo1070, hc1071⟩
  refine ⟨_, rfl, ?_⟩
  have hq1073 : Ch (fun _ => False) w w1072 := Ch.trans hq1062 hc1071 iZ
  have hq1074 : Ch (fun _ => False) w17 w1072 := Ch.trans hq1063 hc1071 iZ
  have hq1075 : Ch (fun _ => False) w1020 w1072 := Ch.trans hq1064 hc1071 iZ
  have hel : (encI T).length = n1066 := encI_byts hO1068
  refine x_killed <| x_dtwo 2 4 (by kernel_rfl) (by decide) ?_ ?_
  ·refine x_skill 2 _ (by kernel_rfl) rfl (e_bytes (o1065.map at0) n1066 cap1067 (encI T) (some 299) (by kernel_rfl) ((Own.rd hO1068).ch (Ch.refl (fun _ => False) w1072) iZ) hel ?_)
   refine x_killed <| yK 4 (e_bytes a n cap us (some 301) (by kernel_rfl) (hr.ch hq1073 iZ) hl ?_)
   refine x_killed <| yd [5, 6] [] .z <| yDe (nS ?_)
   refine x_ret (yR1 (.bool (((bytesOf (encI T))).toList == ((bytesOf us)).toList)) ?_)
   exact ⟨congrArg Ending.returned (congrArg Value.bool (by rw [hu2]; exact beq_self_eq_true _)), hq1073⟩
  refine x_skill 4 _ (by kernel_rfl) rfl (e_bytes a n cap us (some 301) (by kernel_rfl) (hr.ch hq1073 iZ) hl ?_)
  refine x_killed <| yK 2 (e_bytes (o1065.map at0) n1066 cap1067 (encI T) (some 299) (by kernel_rfl) ((Own.rd hO1068).ch (Ch.refl (fun _ => False) w1072) iZ) hel ?_)
  refine x_killed <| yd [5, 6] [] .z <| yDe (nS ?_)
  refine x_ret (yR1 (.bool (((bytesOf (encI T))).toList == ((bytesOf us)).toList)) ?_)
  exact ⟨congrArg Ending.returned (congrArg Value.bool (by rw [hu2]; exact beq_self_eq_true _)), hq1073⟩
 refine x_skill 4 _ (by kernel_rfl) rfl (e_bytes a n cap us (some 301) (by kernel_rfl) (hr.ch hq1062 iZ) hl ?_)
 refine x_killed <| yK 1 (yC (encode_any (TermAt.ch hAt0 hq1063 iZ) hDk.enc) ?_)
 rintro _ w1083 ⟨o1076, n1077, cap1078, rfl, hO1079, hn1080, hlo1081, hc1082⟩
 refine ⟨_, rfl, ?_⟩
 have hq1084 : Ch (fun _ => False) w w1083 := Ch.trans hq1062 hc1082 iZ
 have hq1085 : Ch (fun _ => False) w17 w1083 := Ch.trans hq1063 hc1082 iZ
 have hq1086 : Ch (fun _ => False) w1020 w1083 := Ch.trans hq1064 hc1082 iZ
 have hel : (encI T).length = n1077 := encI_byts hO1079
 refine x_killed <| yK 2 (e_bytes (o1076.map at0) n1077 cap1078 (encI T) (some 299) (by kernel_rfl) ((Own.rd hO1079).ch (Ch.refl (fun _ => False) w1083) iZ) hel ?_)
 refine x_killed <| yd [5, 6] [] .z <| yDe (nS ?_)
 refine x_ret (yR1 (.bool (((bytesOf (encI T))).toList == ((bytesOf us)).toList)) ?_)
 exact ⟨congrArg Ending.returned (congrArg Value.bool (by rw [hu2]; exact beq_self_eq_true _)), hq1084⟩
end Go.Proofs.YtclnfbmmaofpjaaDoor.X
namespace Go.Proofs.YtclnfbmmaofpjaaDoor
open Go.ChangeShapes Go.WideShapes Go.ChangeAt Go.RowKit
theorem ownKnobNone : ownKnob Tryd.prog.godebug = none := by kernel_rfl
abbrev laidT : List (String × DataW Unit) := [("flipbook/glyph.wide", Rows.laid_flipbook_glyph_wide), ("unicode/utf8.acceptRanges", Rows.laid_unicode_utf8_acceptRanges), ("unicode/utf8.first", Rows.laid_unicode_utf8_first)]
theorem doorMet (os : Os) (args : Array Value) : laidMetH Tryd.prog laidT ((World.laidAll Tryd.prog os laidT).forCall (fun _ _ => 0) ⟨#[], args, []⟩).memory := by
 rw [MakeChecks.laidMetH_plain _ _ _ (by kernel_rfl)]; exact laidMet_laidAll _ (by kernel_rfl) (by kernel_rfl)
theorem doorShaped (os : Os) : (World.laidAll Tryd.prog os laidT).Shaped Tryd.prog := World.shaped_of_ZipB (by kernel_rfl) (by kernel_rfl)
theorem lits_of_trod {W : World} {g n t : Nat} {k : IntKind} {e : TypeId} (he : Tryd.prog.underlying e = some (.int k)) (ce : Tryd.prog.cellsOf e = 1) {name : String} {cs : Array Value} {fuel : Nat} {l : List Int} {q : List MemPlace} (hg : Tryd.prog.globalNamed name = some g) (hv : W.var? Tryd.prog name = some cs)
  (hd : DataW.trod (H := Unit) (fun _ => ()) Tryd.prog W 0 (fun _ => true) false fuel t cs.toList = some (.agg (l.map fun n => .lit (.int k n)), q))
  (ht : Tryd.prog.underlying t = some (.array n e)) (hl : l.length = n) : ∀ r, r < l.length → W.cell? ⟨g, r, none⟩ = some (.int k (l.getD r 0)) := by
 obtain ⟨xs, m, _, ex, _, hlx, hel⟩ := DataW.trod_array ht hd
 intro r hr
 have hE := hel r (by omega)
 rw [ce, Nat.mul_one, List.getElem?_eq_getElem (by omega)] at hE
 obtain ⟨z, e1, e2, _⟩ := DataW.trod_int he hE
 have e3 : (xs.map (·.1)) = l.map fun n => .lit (.int k n) := (DataW.agg.inj (Prod.mk.inj ex).1).symm
 have e4 : (xs.map (·.1))[r]? = (l.map fun n => (DataW.lit (.int k n) : DataW Unit))[r]? := by rw [e3]
 rw [List.getElem?_map, List.getElem?_map, List.getElem?_eq_getElem (by omega : r < xs.length), List.getElem?_eq_getElem (by omega : r < l.length), e2] at e4
 have hz : z = l.getD r 0 := by
  simp only [Option.map_some, Option.some.injEq, DataW.lit.injEq, Lit.int.injEq, true_and] at e4
  rw [e4, List.getD, List.getElem?_eq_getElem (by omega : r < l.length)]; rfl
 rw [World.var?_cell hg hv r, ← hz]
 have : cs.toList[r]? = some (.int k z) := by
  have h0 : ((cs.toList.drop r).take 1)[0]? = some (.int k z) := by rw [e1]; rfl
  simpa using h0
 simpa using this
theorem pairs_of_trod {W : World} {g n t e u : Nat} {k : IntKind} {fs : Array Field} (hs : Tryd.prog.underlying e = some (.struct fs)) (h0 : ∃ f, fs[0]? = some f ∧ f.type = u ∧ f.offset = 0) (h1 : ∃ f, fs[1]? = some f ∧ f.type = u ∧ f.offset = 1) (hz : fs.size = 2) (hu : Tryd.prog.underlying u = some (.int k)) (ce : Tryd.prog.cellsOf e = 2) (cu : Tryd.prog.cellsOf u = 1)
  {name : String} {cs : Array Value} {fuel : Nat} {l : List (Int × Int)} {q : List MemPlace} (hg : Tryd.prog.globalNamed name = some g) (hv : W.var? Tryd.prog name = some cs)
  (hd : DataW.trod (H := Unit) (fun _ => ()) Tryd.prog W 0 (fun _ => true) false fuel t cs.toList = some (.agg (l.map fun p => .agg [.lit (.int k p.1), .lit (.int k p.2)]), q))
  (ht : Tryd.prog.underlying t = some (.array n e)) (hl : l.length = n) : ∀ r p, l[r]? = some p → W.cell? ⟨g, r * 2, none⟩ = some (.int k p.1) ∧ W.cell? ⟨g, r * 2 + 1, none⟩ = some (.int k p.2) := by
 obtain ⟨xs, m, _, ex, _, hlx, hel⟩ := DataW.trod_array ht hd
 intro r p hp
 have hr : r < l.length := (List.getElem?_eq_some_iff.1 hp).1
 have hE := hel r (by omega)
 rw [ce, List.getElem?_eq_getElem (by omega)] at hE
 have e3 : (xs.map (·.1)) = l.map fun p => .agg [.lit (.int k p.1), .lit (.int k p.2)] := (DataW.agg.inj (Prod.mk.inj ex).1).symm
 have e4 : (xs.map (·.1))[r]? = (l.map fun p => (DataW.agg [.lit (.int k p.1), .lit (.int k p.2)] : DataW Unit))[r]? := by rw [e3]
 rw [List.getElem?_map, List.getElem?_map, List.getElem?_eq_getElem (by omega : r < xs.length), hp] at e4
 simp only [Option.map_some, Option.some.injEq] at e4
 obtain ⟨ys, m2, _, ey, _, hly, hfy⟩ := DataW.trod_struct hs hE
 rw [ey] at e4
 have e5 := DataW.agg.inj e4
 obtain ⟨f0, hf0, t0, o0⟩ := h0
 obtain ⟨f1, hf1, t1, o1⟩ := h1
 have k0 := hfy 0 f0 hf0
 have k1 := hfy 1 f1 hf1
 rw [t0, o0, cu, List.drop_zero, List.take_take] at k0
 rw [t1, o1, cu] at k1
 have hy : ys.length = 2 := by rw [hly, hz]
 rw [List.getElem?_eq_getElem (by omega)] at k0 k1
 obtain ⟨z0, a0, b0, _⟩ := DataW.trod_int hu k0
 obtain ⟨z1, a1, b1, _⟩ := DataW.trod_int hu k1
 have c0 : (ys.map (·.1))[0]? = some (.lit (.int k p.1)) := by rw [e5]; rfl
 have c1 : (ys.map (·.1))[1]? = some (.lit (.int k p.2)) := by rw [e5]; rfl
 rw [List.getElem?_map, List.getElem?_eq_getElem (by omega), b0] at c0
 rw [List.getElem?_map, List.getElem?_eq_getElem (by omega), b1] at c1
 simp only [Option.map_some, Option.some.injEq, DataW.lit.injEq, Lit.int.injEq, true_and] at c0 c1
 subst c0 c1
 have d0 : cs.toList[r * 2]? = some (.int k p.1) := by
  have h0 : ((cs.toList.drop (r * 2)).take (min 1 2))[0]? = some (.int k p.1) := by rw [a0]; rfl
  simpa using h0
 have d1 : cs.toList[r * 2 + 1]? = some (.int k p.2) := by
  have h0 : ((((cs.toList.drop (r * 2)).take 2).drop 1).take 1)[0]? = some (.int k p.2) := by rw [a1]; rfl
  simpa using h0
 exact ⟨by rw [World.var?_cell hg hv]; simpa using d0, by rw [World.var?_cell hg hv]; simpa using d1⟩
def firstL : List Int := (List.range 256).map X.firstN
def accL : List (Int × Int) := (List.range 16).map X.accN
theorem first_at {c : Nat} (h : c < 256) : firstL.length = 256 ∧ firstL.getD c 0 = X.firstN c := by
 have e : firstL.length = 256 := by simp [firstL]
 refine ⟨e, ?_⟩
 rw [List.getD, firstL, List.getElem?_map, List.getElem?_range h]; rfl
theorem acc_at {i : Nat} (h : i < 16) : accL[i]? = some (X.accN i) := by
 rw [accL, List.getElem?_map, List.getElem?_range h]; rfl
set_option maxRecDepth 100000 in
theorem lt_of_laid {W : World} (h : laidMetH Tryd.prog laidT W) : X.LT W := by
 rw [MakeChecks.laidMetH_plain _ _ _ (by kernel_rfl)] at h
 obtain ⟨ps, ⟨g0, t0, cs0, f0, p0, q0, hg0, ht0, hv0, hd0, ⟨g5, t5, cs5, f5, p5, q5, hg5, ht5, hv5, hd5, ⟨g6, t6, cs6, f6, p6, q6, hg6, ht6, hv6, hd6, _, _⟩, _⟩, _⟩, _, _⟩ := h
 obtain rfl := Option.some.inj ((show Tryd.prog.globalNamed "flipbook/glyph.wide" = some 0 by kernel_rfl).symm.trans hg0)
 obtain rfl := Option.some.inj ((show Tryd.prog.globalNamed "unicode/utf8.acceptRanges" = some 2 by kernel_rfl).symm.trans hg5)
 obtain rfl := Option.some.inj ((show Tryd.prog.globalNamed "unicode/utf8.first" = some 1 by kernel_rfl).symm.trans hg6)
 obtain rfl := Option.some.inj ((show (Tryd.prog.globals[0]?).map (·.type) = some 92 by kernel_rfl).symm.trans ht0)
 obtain rfl := Option.some.inj ((show (Tryd.prog.globals[2]?).map (·.type) = some 102 by kernel_rfl).symm.trans ht5)
 obtain rfl := Option.some.inj ((show (Tryd.prog.globals[1]?).map (·.type) = some 99 by kernel_rfl).symm.trans ht6)
 have z6 : Rows.laid_unicode_utf8_first = .agg (firstL.map fun n => .lit (.int .u8 n)) := by kernel_rfl
 rw [z6] at hd6
 have z5 : (Rows.laid_unicode_utf8_acceptRanges : DataW Unit) = .agg (accL.map fun p => .agg [.lit (.int .u8 p.1), .lit (.int .u8 p.2)]) := by kernel_rfl
 rw [z5] at hd5
 refine ⟨⟨lits_of_trod (k := .i32) (e := 21) (by kernel_rfl) (by kernel_rfl) hg0 hv0 hd0 (by kernel_rfl) rfl, fun r hr => by cases hr⟩, ⟨fun c hc => ?_, fun i hi => ?_⟩, fun i hi => by cases hi⟩
 ·have := lits_of_trod (k := .u8) (e := 5) (by kernel_rfl) (by kernel_rfl) hg6 hv6 hd6 (by kernel_rfl) (first_at hc).1 c (by rw [(first_at hc).1]; exact hc)
  rw [(first_at hc).2] at this; exact this
 ·exact pairs_of_trod (k := .u8) (e := 101) (u := 5) Tryd.underlying101 ⟨_, rfl, rfl, rfl⟩ ⟨_, rfl, rfl, rfl⟩ rfl Tryd.underlying5 (by kernel_rfl) (by kernel_rfl) hg5 hv5 hd5 Tryd.underlying102 (by simp [accL]) i _ (acc_at hi)
theorem below_of_ch {w w' : World} (h : X.Ch (fun _ => False) w w') : Below w.heap.size w w' := ⟨h.os, h.tape, h.output, h.size, fun k hk => h.block k hk id⟩
theorem top_of_laid {W : World} (h : laidMetH Tryd.prog laidT W) : X.gTop ≤ W.heap.size := by
 have := (X.utab_lt (lt_of_laid h).ut).2
 show 3 ≤ _
 have e : X.gAcc + 1 = 3 := by decide
 omega
end Go.Proofs.YtclnfbmmaofpjaaDoor
namespace Go.Proofs.YtclnfbmmaofpjaaDoor
open Go.ChangeShapes Go.WideShapes Go.ChangeAt Go.RowKit
section
variable {H : Type} {enc : TypeId × Value → H} {w : World} {base : Nat}
set_option maxRecDepth 100000 in
theorem open_byts {r : Reach} {b0 : Nat} {t : TypeId} {v : Value} {d : DataW H} {ps : List MemPlace} (ht : Tryd.prog.underlying t = some (.slice 5)) (hval : Value.okWide Tryd.prog w r b0 t v) (hd : DataW.Trod enc Tryd.prog w base (fun _ => true) true t v d ps) (h0 : 0 < w.heap.size) :
  ∃ (D : Nat) (a : Option Addr) (n sc : Nat) (l : List Int), v = .slice a n sc ∧ X.Rd w a (X.u8s l) ∧ l.length = n ∧ n ≤ sc ∧ ((n = 0 ∧ sc = 0) ∨ ∃ o, a = some ⟨D, o, none⟩) ∧ X.byts l ∧ D < w.heap.size ∧ sc ≤ maxLen := by
 obtain ⟨a0, n0, c0, rfl⟩ := okWide_slice ht hval
 obtain ⟨fuel, hf⟩ := hd
 rcases open_ints ht Tryd.underlying5 (by kernel_rfl) hf with ⟨hcs, _⟩ | ⟨a, len, cap, zs, hcs, _, hl, hm, hz, _, hcell, hwf⟩
 ·have h1 : Value.slice a0 n0 c0 = .slice none 0 0 := List.head_eq_of_cons_eq hcs
  exact ⟨0, none, 0, 0, [], h1, X.Rd.nil _ _, rfl, Nat.le_refl _, .inl ⟨rfl, rfl⟩, (fun x hx => by cases hx), h0, Nat.zero_le _⟩
 ·have h1 : Value.slice a0 n0 c0 = .slice (some a) len cap := List.head_eq_of_cons_eq hcs
  have hz' : zs.length = cap := by simpa using hz
  rcases Nat.eq_zero_or_pos cap with hc | hc
  ·subst hc
   obtain rfl : len = 0 := by omega
   exact ⟨0, some a, 0, 0, [], h1, X.Rd.nil _ _, rfl, Nat.le_refl _, .inl ⟨rfl, rfl⟩, (fun x hx => by cases hx), h0, Nat.zero_le _⟩
  ·obtain ⟨b, off, rfl, hat⟩ := ints_at hcell (by omega)
   refine ⟨b, some ⟨b, off, none⟩, len, cap, zs.take len, h1, ⟨(fun e => by cases e), fun ad e j u hj => ?_⟩, by rw [List.length_take]; omega, hl, .inr ⟨off, rfl⟩, fun x hx => ?_, ?_, hm⟩
   ·obtain rfl := Option.some.inj e
    rw [X.add_pl]
    have hlt := (List.getElem?_eq_some_iff.1 hj).1
    rw [List.length_map, List.length_take] at hlt
    rw [hat j (by omega)]
    rw [List.getElem?_map, List.getElem?_take, if_pos (by omega), List.getElem?_eq_getElem (by omega)] at hj
    rw [← hj, List.getD, List.getElem?_eq_getElem (by omega)]
    rfl
   ·have := hwf x (List.mem_of_mem_take hx)
    simp only [Lit.wf, Bool.and_eq_true, decide_eq_true_eq] at this
    have h2 : (0 : Int) ≤ x ∧ x ≤ 255 := this
    exact h2
   ·exact X.cell_lt (hat 0 (by omega))
end
end Go.Proofs.YtclnfbmmaofpjaaDoor
