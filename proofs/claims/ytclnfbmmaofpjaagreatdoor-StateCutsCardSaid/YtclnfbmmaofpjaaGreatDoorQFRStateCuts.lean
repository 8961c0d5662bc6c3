/- The statement StateCuts: its row and its card, proved for every input. -/
import Derived.Test.YtclnfbmmaofpjaaGreatDoorTie
import Derived.Test.YtclnfbmmaofpjaaGreatDoorCards
import Derived.ProofKit
import Derived.OpenShut
import Derived.LaidMore
import Derived.Lay
import Derived.SevenTiedAt
import Derived.Stop.Joined
import Derived.Below
import Derived.Carry
import Derived.Test.YtclnfbmmaofpjaaGreatDoorQF6
set_option linter.unusedSimpArgs false
set_option linter.unusedVariables false
namespace Go.Proofs.YtclnfbmmaofpjaaGreatDoor
open Go.ChangeShapes Go.WideShapes Go.ChangeAt Go.RowKit
set_option maxRecDepth 100000 in
theorem stateCuts_lifted (os : Os) (started : os.Started) (H : Type) (enc : TypeId × Value → H) :
    ReturnsInHanded {} Tryz.checked os 4 .any (fun w args => (Rows.stateCutsSpec.pre enc Tryz.prog Tryz.f4 [] false w args ∧ laidMetH Tryz.prog Rows.stateCutsRow.laid w) ∧ sizedMet enc Tryz.prog Tryz.f4 (OpenSpec.ofChange Rows.stateCutsSpec) false w args)
      (Rows.stateCutsSpec.post enc Tryz.prog Tryz.f4 false true false false) := by
  refine returnsInHanded_of_change_and (C := Tryz.checked) (X := fun w _ => laidMetH Tryz.prog Rows.stateCutsRow.laid w) (fun _ _ _ hh h => h.of_heap hh) qiV started (by kernel_rfl) Tryz.func4
    (ChangeSpec.witness_shaped (enc := enc) (C := Tryz.checked) (os := os) (X := fun w _ => laidMetH Tryz.prog Rows.stateCutsRow.laid w) false (World.laidAll Tryz.prog os qkJ) #[.agg #[.int .i64 0, .int .i64 0], .slice none 0 0, .int .i64 0] 8 (World.laidAll_os _ _ _) (qkK os) (by kernel_rfl) (by kernel_rfl) (by kernel_rfl) (doorMet os _)) ?_
  intro W l args ds gs M b hW _ _ hL _
  have a : ∀ (j : Nat) t v, Tryz.f4.params[j]? = some t → args[j]? = some v → Value.okWide Tryz.prog W .any l t v := b
  have hW' := hW
  obtain ⟨p, q, c, hV, rfl, N, O⟩ := hW
  have hA : DataW.TrodAll enc Tryz.prog W 0 (fun _ => true) true Tryz.f4.params.toList args.toList ds p := c
  rw [Tryz.params4] at hA a
  obtain ⟨d, P, Q, R, S, T, U, rfl, rfl, m, n⟩ := trodAll_cons hA
  obtain ⟨f, V, Y, Z, p1, q1, rfl, rfl, rfl, g, o⟩ := trodAll_cons n
  obtain ⟨i, a5, d2, a7, p2, q2, rfl, rfl, rfl, r, s⟩ := trodAll_cons o
  obtain ⟨rfl, rfl, rfl⟩ := trodAll_nil s
  obtain rfl : args = #[d, f, i] := by cases args; simp_all
  obtain ⟨rfl, rfl⟩ := trodVars_none hV
  obtain ⟨u, y, rfl, rfl, rfl, z, u0⟩ := qmR Tryz.underlying22 Tryz.underlying3 (by kernel_rfl) (by kernel_rfl) (a 0 22 d rfl rfl) m
  obtain ⟨A, B, D, E, rfl, F, G, I⟩ := qkN Tryz.underlying23 (a 1 23 f rfl rfl) g
  obtain ⟨J, rfl, rfl, rfl, K⟩ := open_int Tryz.underlying3 (a 2 3 i rfl rfl) r
  clear c b
  have L := DataW.Whole.lt hW'
  refine (X.cuts_any u y A B D E J W (qkL hL) (qiX hL) F G I).mono fun e W' ⟨he, hc⟩ => ?_
  have k := qiW hc
  subst he
  exact ⟨_, rfl, _, _, _, [], _, [], hW', trodAll_mk1 (shut_bool Tryz.underlying4 _), (trodAll_cons_mk (qmS Tryz.underlying22 Tryz.underlying3 (by kernel_rfl) (by kernel_rfl) z u0) (trodAll_cons_mk (Below.trod (by kernel_rfl) (by kernel_rfl) (of_decide_eq_true (by kernel_rfl)) g k (fun x hx => L x (by simp [hx]))) (trodAll_cons_mk (shut_int Tryz.underlying3 K) trodAll_mk0))), rfl, k.frame _, fun h => by cases h⟩
theorem stateCuts_holds : Rows.StateCutsSaid :=
  OpenClaim.holds_of_wide 4 Tryz.f4 rfl rfl rfl rfl rfl rfl rfl ⟨rfl, rfl, rfl, rfl, rfl⟩ rfl rfl rfl rfl rfl (by kernel_rfl) Tryz.func4 (by kernel_rfl)
    (of_decide_eq_true (by kernel_rfl)) (by unfold Func.isWrapper; first | (rw [if_pos (by decide +kernel)]; kernel_rfl) | (rw [if_neg (by decide +kernel)]; exact ⟨rfl, rfl⟩))
    (fun os started H enc _ => stateCuts_lifted os started H enc)
theorem stateCuts_card_holds : Rows.StateCutsCardSaid :=
  Claim7.holds_tied_plain_at .later [] [.data, .data, .data, .data, .data, .data, .pinned] true (true, "0ab91335e69f89b0f00c1c3bdd9b2274d57198cf513a269aeeb74fd764b5669f") false
    stateCuts_holds (fun _ h => by cases h) (by kernel_rfl) (fun _ h => by cases h) stateCuts_row_tie rfl ⟨rfl, rfl⟩ (by kernel_rfl) rfl
    (fun f fn hf hfn => by
      obtain rfl : f = 4 := Option.some.inj ((show Tryz.prog.funcNamed "flipbook/flipbooklaw11.StateCuts" = some 4 by kernel_rfl).symm.trans hf) |>.symm
      obtain rfl : fn = Tryz.f4 := (Option.some.inj (Tryz.func4.symm.trans hfn)).symm
      exact ⟨by kernel_rfl, fun j t ht => by
        rw [Tryz.params4] at ht
        have hm : t ∈ [22, 23, 3] := by simpa using Array.mem_of_getElem? ht
        have a : ([22, 23, 3].all fun u => !Tryz.prog.wantsStandIn u) = true := by kernel_rfl
        exact (show Tryz.prog.wantsStandIn t = false by simpa using List.all_eq_true.1 a t hm)⟩)
    (by kernel_rfl)
#print axioms stateCuts_card_holds
end Go.Proofs.YtclnfbmmaofpjaaGreatDoor
