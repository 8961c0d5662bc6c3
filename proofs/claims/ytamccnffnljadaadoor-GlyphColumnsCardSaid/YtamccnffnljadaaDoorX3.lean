/- Regions over frames of live slots: in the order of the text, and in whatever order is drawn. -/
import Derived.Test.YtamccnffnljadaaDoorX2
import Derived.OrdersHeld
import Derived.Still
namespace Go.Proofs.YtamccnffnljadaaDoor.X
open Go

/-- Is an operation wanted? -/
def wantR (f : Fr) (ops : Array Oper) (o : Oper) : Option Bool :=
  match o.guard with
  | none => some true
  | some (j, want) => match (ops[j]?).bind (·.dst) with
    | some d => match get f d with
      | some (.bool b) => some (b == want)
      | _ => none
    | none => none
theorem wantR_ok {N : Nat} {f : Fr} {ops : Array Oper} {o : Oper} {r : Bool} {a : Act} (h : wantR f ops o = some r) (ha : Has N f a) : Region.wanted o (yielded ops a.tmps) = r := by
  unfold wantR at h
  unfold Region.wanted
  cases hg : o.guard with
  | none => rw [hg] at h; simpa using h
  | some jw =>
    obtain ⟨j, want⟩ := jw
    rw [hg] at h
    simp only at h ⊢
    unfold yielded
    cases hd : (ops[j]?).bind (·.dst) with
    | none => rw [hd] at h; cases h
    | some d =>
      rw [hd] at h
      simp only at h
      split at h
      · rename_i b hb
        obtain rfl := Option.some.inj h
        have h1 := ha.get d _ hb
        have h2 : a.tmps[d]? = some (.bool b) := by
          rw [Array.getD_eq_getD_getElem?] at h1
          cases hx : a.tmps[d]? with
          | none => rw [hx] at h1; simp [undef] at h1
          | some u => rw [hx] at h1; simpa using h1
        simp [h2]
      · cases h

def pushd (d : Option Tmp) (v : Value) (f : Fr) : Fr :=
  match d with
  | some d => (d, v) :: f
  | none => f
def dstOk (N : Nat) (d : Option Tmp) : Bool :=
  match d with
  | some d => decide (d < N)
  | none => true
theorem Has.pushd {N : Nat} {f : Fr} {a : Act} (h : Has N f a) {d : Option Tmp} (hd : dstOk N d = true) (v : Value) : Has N (pushd d v f) (a.put d v) := by
  cases d with
  | none => exact h
  | some d => exact h.put d (by simpa [dstOk] using hd) v

/-- One operation that yields. -/
def stepv (P : Program) (N : Nat) (ops : Array Oper) (alt : List Nat) (f : Fr) (lv : List Value) (i : Nat) : Option (Fr × List (World → Prop) × List Value) :=
  match ops[i]? with
  | some o => if dstOk N o.dst then
      match wantR f ops o with
      | some true => match opv P f (alt.contains i) lv o.op with
        | some (v, cs, lv') => some (pushd o.dst v f, cs, lv')
        | none => none
      | some false => some (pushd o.dst undef f, [], lv)
      | none => none
    else none
  | none => none

/-- What one such operation does in a world of which the conditions hold. -/
theorem stepv_yields {P : Program} {N : Nat} {ops : Array Oper} {alt : List Nat} {f f' : Fr} {lv lv' : List Value} {i : Nat} {cs : List (World → Prop)} {a : Act} {S : World → Prop}
    (h : stepv P N ops alt f lv i = some (f', cs, lv')) (ha : Has N f a) (hc : ∀ w, S w → AllC cs w) :
    ∃ o v, ops[i]? = some o ∧ YieldsIf P ops S o v a ∧ Has N f' (a.put o.dst v) := by
  unfold stepv at h
  cases ho : ops[i]? with
  | none => rw [ho] at h; cases h
  | some o =>
    rw [ho] at h
    simp only at h
    split at h
    · rename_i hd
      split at h
      · rename_i hw
        split at h
        · rename_i v cs' lv'' hv
          simp only [Option.some.injEq, Prod.mk.injEq] at h
          obtain ⟨rfl, rfl, rfl⟩ := h
          exact ⟨o, v, rfl, .inl ⟨wantR_ok hw ha, fun w hS => opv_run hv ha (hc w hS)⟩, ha.pushd hd v⟩
        · cases h
      · rename_i hw
        simp only [Option.some.injEq, Prod.mk.injEq] at h
        obtain ⟨rfl, rfl, rfl⟩ := h
        exact ⟨o, undef, rfl, .inr ⟨wantR_ok hw ha, rfl⟩, ha.pushd hd undef⟩
      · cases h
    · cases h

/-! ### In the order of the text -/
def runv (P : Program) (N : Nat) (ops : Array Oper) (alt : List Nat) : List Nat → Fr → List Value → Option (Fr × List (World → Prop))
  | [], f, lv => match lv with
    | [] => some (f, [])
    | _ => none
  | i :: is, f, lv => match stepv P N ops alt f lv i with
    | some (f', cs, lv') => match runv P N ops alt is f' lv' with
      | some (f'', cs') => some (f'', cs ++ cs')
      | none => none
    | none => none

theorem runv_ok {P : Program} {N : Nat} {ops : Array Oper} {alt : List Nat} {Q : Exit → Act → World → Prop} {rest : List Nat} {w : World} : ∀ (is : List Nat) {f f' : Fr} {lv : List Value} {cs : List (World → Prop)} {a : Act},
    runv P N ops alt is f lv = some (f', cs) → Has N f a → AllC cs w → (∀ a', Has N f' a' → wpOps P ops Q rest a' w) → wpOps P ops Q (is ++ rest) a w
  | [], f, f', lv, cs, a, h, ha, hc, hr => by
    unfold runv at h
    split at h
    · simp only [Option.some.injEq, Prod.mk.injEq] at h
      obtain ⟨rfl, rfl⟩ := h
      exact hr a ha
    · cases h
  | i :: is, f, f', lv, cs, a, h, ha, hc, hr => by
    unfold runv at h
    split at h
    · rename_i f1 cs1 lv1 hs
      split at h
      · rename_i f2 cs2 hr2
        simp only [Option.some.injEq, Prod.mk.injEq] at h
        obtain ⟨rfl, rfl⟩ := h
        rw [AllC_append] at hc
        obtain ⟨o, v, ho, hy, ha'⟩ := stepv_yields (S := fun w' => w' = w) hs ha (fun w' hw => by subst hw; exact hc.1)
        rw [List.cons_append, wpOps_cons]
        exact hy.wpOp ho rfl (runv_ok is hr2 ha' hc.2 hr)
      · cases h
    · cases h

def WS (P : Program) (N : Nat) (ops : Array Oper) (Q : Exit → Act → World → Prop) (k : Nat) (f : Fr) (w : World) : Prop :=
  ∀ a, Has N f a → wpOps P ops Q (List.range' k (ops.size - k)) a w

def segv (P : Program) (N : Nat) (ops : Array Oper) (alt : List Nat) (k k' : Nat) (ks : List Nat) (f : Fr) (lv : List Value) : Option (Fr × List (World → Prop)) :=
  if k ≤ k' ∧ k' ≤ ops.size then
    match runv P N ops alt (List.range' k (k' - k)) f lv with
    | some (f', cs) => some (keep ks f', cs)
    | none => none
  else none

theorem x_pure {P : Program} {N : Nat} {ops : Array Oper} {Q : Exit → Act → World → Prop} {w : World} {f f' : Fr} {cs : List (World → Prop)} {k : Nat} (k' : Nat) (alt ks : List Nat) (lv : List Value)
    (h : segv P N ops alt k k' ks f lv = some (f', cs)) (hc : AllC cs w) (hn : WS P N ops Q k' f' w) : WS P N ops Q k f w := by
  intro a ha
  unfold segv at h
  split at h
  · rename_i hk
    split at h
    · rename_i f1 cs1 hr
      simp only [Option.some.injEq, Prod.mk.injEq] at h
      obtain ⟨rfl, rfl⟩ := h
      have e : List.range' k (ops.size - k) = List.range' k (k' - k) ++ List.range' k' (ops.size - k') := by
        have := List.range'_append_1 (s := k) (m := k' - k) (n := ops.size - k')
        rw [show k + (k' - k) = k' by omega, show k' - k + (ops.size - k') = ops.size - k by omega] at this
        exact this.symm
      rw [e]
      exact runv_ok _ hr ha hc fun a' ha' => hn a' (ha'.keep ks)
    · cases h
  · cases h
theorem x_end {P : Program} {N : Nat} {ops : Array Oper} {Q : Exit → Act → World → Prop} {w : World} {f : Fr} {k : Nat} (hk : ops.size = k) (h : ∀ a, Has N f a → Q .normal a w) : WS P N ops Q k f w := by
  intro a ha
  rw [show ops.size - k = 0 by omega]
  exact h a ha
theorem x_eff {P : Program} {N : Nat} {ops : Array Oper} {Q : Exit → Act → World → Prop} {w : World} {f : Fr} {k : Nat} (k' : Nat) (hk : k' = k + 1 ∧ k < ops.size)
    (h : ∀ a, Has N f a → wpOp P ops Q k (fun a' w' => wpOps P ops Q (List.range' k' (ops.size - k')) a' w') a w) : WS P N ops Q k f w := by
  intro a ha
  obtain ⟨rfl, hk⟩ := hk
  rw [show ops.size - k = (ops.size - (k + 1)) + 1 by omega, List.range'_succ, wpOps_cons]
  exact h a ha

/-! ### In whatever order is drawn: 'F' holds till an operation of 'kill' has come up -/
def wpAnyF (P : Program) (ops : Array Oper) (Q : Exit → Act → World → Prop) (kill : List Nat) : (World → Prop) → Nat → Array Bool → Act → World → Prop
  | _, 0, listed, a, w => Region.ready .any ops listed = [] ∧ Q .normal a w
  | F, fuel + 1, listed, a, w =>
    (Region.ready .any ops listed = [] → Q .normal a w) ∧
    ∀ i ∈ Region.ready .any ops listed, wpOp P ops Q i (fun a' w' =>
      if kill.contains i then wpAnyF P ops Q kill (fun _ => True) fuel (listed.setIfInBounds i true) a' w'
      else F w' ∧ wpAnyF P ops Q kill F fuel (listed.setIfInBounds i true) a' w') a w
theorem wpAny_of_F {P : Program} {ops : Array Oper} {Q : Exit → Act → World → Prop} {kill : List Nat} : ∀ (fuel : Nat) (F : World → Prop) (listed : Array Bool) (a : Act) (w : World),
    wpAnyF P ops Q kill F fuel listed a w → wpAny P .any ops Q fuel listed a w
  | 0, _, _, _, _, h => h
  | fuel + 1, F, _, _, _, h => ⟨h.1, fun i hi => wpOp_mono (fun a' w' h' => by
      split at h'
      · exact wpAny_of_F fuel _ _ a' w' h'
      · exact wpAny_of_F fuel _ _ a' w' h'.2) (h.2 i hi)⟩

/-- Does an operation wait for another one, by an edge? -/
def waits (ops : Array Oper) (j i : Nat) : Bool :=
  match ops[j]? with
  | some oj => oj.after.any fun e => Region.binds .any e && e.on == i
  | none => false
theorem waits_spec {ops : Array Oper} {j i : Nat} (h : waits ops j i = true) : ∃ oj, ops[j]? = some oj ∧ ∃ e ∈ oj.after, Region.binds .any e = true ∧ e.on = i := by
  unfold waits at h
  split at h
  · rename_i oj hj
    obtain ⟨e, he, hb⟩ := Array.any_eq_true'.1 h
    simp only [Bool.and_eq_true, beq_iff_eq] at hb
    exact ⟨oj, hj, e, he, hb.1, hb.2⟩
  · cases h
theorem not_ready {ops : Array Oper} {listed : Array Bool} {i j : Nat} (hi : i ∈ Region.ready .any ops listed) (hw : waits ops j i = true) : ¬ j ∈ Region.ready .any ops listed := by
  intro hj
  obtain ⟨oj, hoj, e, he, hb, hon⟩ := waits_spec hw
  obtain ⟨_, oj', hoj', hall⟩ := mem_ready.1 hj
  rw [hoj] at hoj'
  obtain rfl := Option.some.inj hoj'
  have h1 := hall e he hb
  have h0 := (mem_ready.1 hi).1
  rw [hon] at h1
  rcases Nat.lt_or_ge i listed.size with h' | h'
  · simp [h'] at h0 h1; rw [h0] at h1; cases h1
  · simp [Array.getElem?_eq_none h'] at h1

theorem YieldsIf.weaken {P : Program} {ops : Array Oper} {S T : World → Prop} {o : Oper} {v : Value} {a : Act} (h : YieldsIf P ops S o v a) (hT : ∀ w, T w → S w) : YieldsIf P ops T o v a :=
  h.imp (fun ⟨h1, h2⟩ => ⟨h1, fun w hw => h2 w (hT w hw)⟩) id

theorem wpAnyF_first {P : Program} {ops : Array Oper} {Q : Exit → Act → World → Prop} {kill : List Nat} {i : Nat} {oi : Oper} {v : Value} (hi : ops[i]? = some oi)
    (hsel : ∀ (j : Nat) (o : Oper) cs b, ops[j]? = some o → o.op ≠ .select cs b) (hQ : ∀ c a a' w, Q (.panic c) a w → Q (.panic c) a' w) (hik : kill.contains i = false) :
    ∀ (fuel : Nat) (listed : Array Bool) (F : World → Prop) (a : Act) (w : World),
      (∀ j oj, ops[j]? = some oj → j ≠ i → listed.getD j true = false → (∀ e ∈ oj.after, Region.binds .any e = true → e.on ≠ i) → oi.apart ops oj = true) →
      i ∈ Region.ready .any ops listed → YieldsIf P ops F oi v a → F w → (YieldsIf P ops (fun _ => True) oi v a ∨ ∀ k ∈ kill, waits ops k i = true) →
      wpAnyF P ops Q kill F fuel (listed.setIfInBounds i true) (a.put oi.dst v) w → wpAnyF P ops Q kill F (fuel + 1) listed a w := by
  intro fuel
  induction fuel with
  | zero =>
    intro listed F a w _ hr hy hF _ H
    refine ⟨fun h => (by rw [h] at hr; cases hr), fun j hj => ?_⟩
    by_cases hji : j = i
    · subst hji; exact hy.wpOp hi hF (by rw [if_neg (by rw [hik]; exact Bool.false_ne_true)]; exact ⟨hF, H⟩)
    · have := ready_mono hj hji
      rw [H.1] at this
      cases this
  | succ fuel ih =>
    intro listed F a w hfree hr hy hF hk H
    refine ⟨fun h => (by rw [h] at hr; cases hr), fun j hj => ?_⟩
    by_cases hji : j = i
    · subst hji; exact hy.wpOp hi hF (by rw [if_neg (by rw [hik]; exact Bool.false_ne_true)]; exact ⟨hF, H⟩)
    · have h1 := H.2 j (ready_mono hj hji)
      obtain ⟨hjun, oj, hoj, hall⟩ := mem_ready.1 hj
      have hnot : ∀ e ∈ oj.after, Region.binds .any e = true → e.on ≠ i := fun e he hb heq => by
        have h1 := hall e he hb
        have h0 := (mem_ready.1 hr).1
        rw [heq] at h1
        rcases Nat.lt_or_ge i listed.size with h' | h'
        · simp [h'] at h0 h1; rw [h0] at h1; cases h1
        · simp [Array.getElem?_eq_none h'] at h1
      have hfree' : ∀ k ok, ops[k]? = some ok → k ≠ i → (listed.setIfInBounds j true).getD k true = false →
          (∀ e ∈ ok.after, Region.binds .any e = true → e.on ≠ i) → oi.apart ops ok = true := fun k ok hk hki hun hno => by
        refine hfree k ok hk hki ?_ hno
        by_cases hjk : j = k
        · subst hjk; exact hjun
        · rw [getD_set_ne true hjk] at hun; exact hun
      have hap := hfree j oj hoj hji hjun hnot
      have hqq : ∀ c a w, Q (.panic c) (a.put oi.dst v) w → Q (.panic c) a w := fun c a w h => hQ c _ a w h
      have hready := ready_mono hr (Ne.symm hji)
      rcases hk with hT | hwt
      · have h2 := wpOp_putIf hoj hap (fun cs b => hsel i oi cs b hi) (fun cs b => hsel j oj cs b hoj) hqq hT h1
        refine wpOp_mono (fun a' w' h3 => ?_) h2
        obtain ⟨h3, h4⟩ := h3
        split
        · rename_i hjk
          rw [if_pos hjk, Array.setIfInBounds_comm _ _ (Ne.symm hji)] at h4
          exact ih _ _ a' w' hfree' hready h3 trivial (.inl h3) h4
        · rename_i hjk
          rw [if_neg hjk, Array.setIfInBounds_comm _ _ (Ne.symm hji)] at h4
          exact ⟨h4.1, ih _ _ a' w' hfree' hready (YieldsIf.weaken h3 fun _ _ => trivial) h4.1 (.inl h3) h4.2⟩
      · have h2 := wpOp_putIf hoj hap (fun cs b => hsel i oi cs b hi) (fun cs b => hsel j oj cs b hoj) hqq hy h1
        refine wpOp_mono (fun a' w' h3 => ?_) h2
        obtain ⟨h3, h4⟩ := h3
        split
        · rename_i hjk
          exact absurd hj (not_ready hr (hwt j (by simpa using hjk)))
        · rename_i hjk
          rw [if_neg hjk, Array.setIfInBounds_comm _ _ (Ne.symm hji)] at h4
          exact ⟨h4.1, ih _ _ a' w' hfree' hready h3 h4.1 (.inr hwt) h4.2⟩

def marked (n : Nat) (done : List Nat) : Array Bool := done.foldl (fun l i => l.setIfInBounds i true) (Array.replicate n false)
theorem marked_snoc (n : Nat) (done : List Nat) (i : Nat) : marked n (done ++ [i]) = (marked n done).setIfInBounds i true := by simp [marked]

/-- A run of operations that yield, each of which may be taken first. -/
def rund (P : Program) (N : Nat) (ops : Array Oper) (tot : Bool) (alt kill : List Nat) : List Nat → List Nat → Fr → List Value → Option (Fr × List (World → Prop))
  | _, [], f, lv => match lv with
    | [] => some (f, [])
    | _ => none
  | done, i :: is, f, lv => match stepv P N ops alt f lv i with
    | some (f', cs, lv') =>
      if (Region.ready .any ops (marked ops.size done)).contains i && Region.free .any ops (marked ops.size done) i && !kill.contains i && (tot || cs.isEmpty || kill.all fun k => waits ops k i) then
        match rund P N ops tot alt kill (done ++ [i]) is f' lv' with
        | some (f'', cs') => some (f'', cs ++ cs')
        | none => none
      else none
    | none => none

def WD (P : Program) (N : Nat) (ops : Array Oper) (Q : Exit → Act → World → Prop) (kill : List Nat) (F : World → Prop) (done : List Nat) (f : Fr) (w : World) : Prop :=
  ∀ a, Has N f a → wpAnyF P ops Q kill F (ops.size - done.length) (marked ops.size done) a w

/-- No panic, and nothing outgrown, is looked for. -/
def Calm (Q : Exit → Act → World → Prop) : Exit → Act → World → Prop
  | .panic _, _, _ => False
  | .outgrown, _, _ => False
  | e, a, w => Q e a w
theorem Calm.to {Q : Exit → Act → World → Prop} {e : Exit} {a : Act} {w : World} (h : Calm Q e a w) : Q e a w := by
  cases e <;> first | exact h | exact h.elim

theorem rund_ok {P : Program} {N : Nat} {ops : Array Oper} {tot : Bool} {alt kill : List Nat} {Q : Exit → Act → World → Prop} {F : World → Prop} {w : World} (hs : Region.noSelect ops = true) (hF : F w) (hT : tot = true → ∀ w, F w) :
    ∀ (is done : List Nat) {f f' : Fr} {lv : List Value} {cs : List (World → Prop)} {a : Act}, rund P N ops tot alt kill done is f lv = some (f', cs) → done.length + is.length ≤ ops.size → Has N f a → (∀ w', F w' → AllC cs w') →
    (∀ a', Has N f' a' → wpAnyF P ops (Calm Q) kill F (ops.size - (done ++ is).length) (marked ops.size (done ++ is)) a' w) → wpAnyF P ops (Calm Q) kill F (ops.size - done.length) (marked ops.size done) a w
  | [], done, f, f', lv, cs, a, h, hl, ha, hc, hr => by
    unfold rund at h
    split at h
    · simp only [Option.some.injEq, Prod.mk.injEq] at h
      obtain ⟨rfl, rfl⟩ := h
      simpa using hr a ha
    · cases h
  | i :: is, done, f, f', lv, cs, a, h, hl, ha, hc, hr => by
    unfold rund at h
    split at h
    · rename_i f1 cs1 lv1 hst
      split at h
      · rename_i hb
        split at h
        · rename_i f2 cs2 hr2
          simp only [Option.some.injEq, Prod.mk.injEq] at h
          obtain ⟨rfl, rfl⟩ := h
          simp only [Bool.and_eq_true] at hb
          obtain ⟨⟨⟨b1, b2⟩, b3⟩, b4⟩ := hb
          have hc1 : ∀ w', F w' → AllC cs1 w' := fun w' h => (AllC_append.1 (hc w' h)).1
          have hc2 : ∀ w', F w' → AllC cs2 w' := fun w' h => (AllC_append.1 (hc w' h)).2
          obtain ⟨o, v, ho, hy, ha'⟩ := stepv_yields (S := F) hst ha hc1
          have hk : YieldsIf P ops (fun _ => True) o v a ∨ ∀ k ∈ kill, waits ops k i = true := by
            rcases Bool.or_eq_true_iff.1 b4 with b4 | b4
            · rcases Bool.or_eq_true_iff.1 b4 with b4 | b4
              · exact .inl (YieldsIf.weaken hy fun w' _ => hT b4 w')
              obtain ⟨o', v', ho', hy', ha''⟩ := stepv_yields (S := fun _ => True) hst ha (fun w' _ => (show cs1 = [] from by simpa using b4) ▸ trivial)
              rw [ho] at ho'
              obtain rfl := Option.some.inj ho'
              left
              rcases hy with ⟨h1, h2⟩ | ⟨h1, h2⟩
              · rcases hy' with ⟨h3, h4⟩ | ⟨h3, h4⟩
                · have e1 := h2 w hF
                  have e2 := h4 w trivial
                  rw [e1] at e2
                  have : v = v' := by simpa using e2
                  subst this
                  exact .inl ⟨h3, h4⟩
                · rw [h1] at h3; cases h3
              · exact .inr ⟨h1, h2⟩
            · exact .inr fun k hk => List.all_eq_true.1 b4 k hk
          simp only [List.length_cons] at hl
          rw [show ops.size - done.length = (ops.size - (done ++ [i]).length) + 1 by simp; omega]
          refine wpAnyF_first ho (Region.noSelect_spec hs) (fun c a a' w h => h.elim) (by simpa using b3) _ _ F a w (Region.free_spec ho b2) (by simpa using b1) hy hF hk ?_
          rw [← marked_snoc]
          refine rund_ok hs hF hT is (done ++ [i]) hr2 (by simp; omega) ha' hc2 ?_
          simpa using hr
        · cases h
      · cases h
    · cases h

def segd (P : Program) (N : Nat) (ops : Array Oper) (tot : Bool) (alt kill done is ks : List Nat) (f : Fr) (lv : List Value) : Option (Fr × List (World → Prop)) :=
  if Region.noSelect ops = true ∧ done.length + is.length ≤ ops.size then
    match rund P N ops tot alt kill done is f lv with
    | some (f', cs) => some (keep ks f', cs)
    | none => none
  else none

theorem x_dpure0 {P : Program} {N : Nat} {ops : Array Oper} {Q : Exit → Act → World → Prop} {kill : List Nat} {F : World → Prop} {w : World} {done : List Nat} {f f' : Fr} {cs : List (World → Prop)} {tot : Bool} {done' is alt ks : List Nat} {lv : List Value}
    (hT : tot = true → ∀ w, F w) (h : segd P N ops tot alt kill done is ks f lv = some (f', cs)) (hd : done ++ is = done') (hF : F w) (hc : ∀ w', F w' → AllC cs w') (hn : WD P N ops (Calm Q) kill F done' f' w) : WD P N ops (Calm Q) kill F done f w := by
  intro a ha
  unfold segd at h
  split at h
  · rename_i hk
    split at h
    · rename_i f1 cs1 hr
      simp only [Option.some.injEq, Prod.mk.injEq] at h
      obtain ⟨rfl, rfl⟩ := h
      subst hd
      exact rund_ok hk.1 hF hT is done hr hk.2 ha hc fun a' ha' => hn a' (ha'.keep ks)
    · cases h
  · cases h
theorem x_dpure {P : Program} {N : Nat} {ops : Array Oper} {Q : Exit → Act → World → Prop} {kill : List Nat} {F : World → Prop} {w : World} {done : List Nat} {f f' : Fr} {cs : List (World → Prop)} (done' is alt ks : List Nat) (lv : List Value)
    (h : segd P N ops false alt kill done is ks f lv = some (f', cs)) (hd : done ++ is = done') (hF : F w) (hc : ∀ w', F w' → AllC cs w') (hn : WD P N ops (Calm Q) kill F done' f' w) : WD P N ops (Calm Q) kill F done f w :=
  x_dpure0 (fun h => by cases h) h hd hF hc hn
theorem x_dpureT {P : Program} {N : Nat} {ops : Array Oper} {Q : Exit → Act → World → Prop} {kill : List Nat} {w : World} {done : List Nat} {f f' : Fr} {cs : List (World → Prop)} (done' is alt ks : List Nat) (lv : List Value)
    (h : segd P N ops true alt kill done is ks f lv = some (f', cs)) (hd : done ++ is = done') (hc : ∀ w', AllC cs w') (hn : WD P N ops (Calm Q) kill (fun _ => True) done' f' w) : WD P N ops (Calm Q) kill (fun _ => True) done f w :=
  x_dpure0 (fun _ _ => trivial) h hd trivial (fun w' _ => hc w') hn
theorem x_dend {P : Program} {N : Nat} {ops : Array Oper} {Q : Exit → Act → World → Prop} {kill : List Nat} {F : World → Prop} {w : World} {done : List Nat} {f : Fr} (hk : ops.size = done.length) (hr : (Region.ready .any ops (marked ops.size done)).isEmpty = true)
    (h : ∀ a, Has N f a → Q .normal a w) : WD P N ops (Calm Q) kill F done f w := by
  intro a ha
  rw [show ops.size - done.length = 0 by omega]
  exact ⟨by simpa using hr, h a ha⟩
/-- One operation that does more: nothing else may come up. -/
theorem x_deff {P : Program} {N : Nat} {ops : Array Oper} {Q : Exit → Act → World → Prop} {kill : List Nat} {F : World → Prop} {w : World} {done : List Nat} {f : Fr} (k : Nat) (done' : List Nat)
    (hr : (Region.ready .any ops (marked ops.size done) == [k]) = true) (hk : kill.contains k = false) (hd : done ++ [k] = done') (hl : done.length < ops.size)
    (h : ∀ a, Has N f a → wpOp P ops Q k (fun a' w' => F w' ∧ wpAnyF P ops Q kill F (ops.size - done'.length) (marked ops.size done') a' w') a w) : WD P N ops Q kill F done f w := by
  intro a ha
  subst hd
  have hr' : Region.ready .any ops (marked ops.size done) = [k] := by simpa using hr
  rw [show ops.size - done.length = (ops.size - (done ++ [k]).length) + 1 by simp; omega]
  refine ⟨fun h0 => (by rw [hr'] at h0; cases h0), fun i hi => ?_⟩
  rw [hr'] at hi
  obtain rfl := List.mem_singleton.1 hi
  rw [← marked_snoc]
  refine wpOp_mono (fun a' w' h' => ?_) (h a ha)
  rw [if_neg (by rw [hk]; exact Bool.false_ne_true)]
  exact h'
theorem x_dkill {P : Program} {N : Nat} {ops : Array Oper} {Q : Exit → Act → World → Prop} {kill : List Nat} {F : World → Prop} {w : World} {done : List Nat} {f : Fr} (k : Nat) (done' : List Nat)
    (hr : (Region.ready .any ops (marked ops.size done) == [k]) = true) (hk : kill.contains k = true) (hd : done ++ [k] = done') (hl : done.length < ops.size)
    (h : ∀ a, Has N f a → wpOp P ops Q k (fun a' w' => wpAnyF P ops Q kill (fun _ => True) (ops.size - done'.length) (marked ops.size done') a' w') a w) : WD P N ops Q kill F done f w := by
  intro a ha
  subst hd
  have hr' : Region.ready .any ops (marked ops.size done) = [k] := by simpa using hr
  rw [show ops.size - done.length = (ops.size - (done ++ [k]).length) + 1 by simp; omega]
  refine ⟨fun h0 => (by rw [hr'] at h0; cases h0), fun i hi => ?_⟩
  rw [hr'] at hi
  obtain rfl := List.mem_singleton.1 hi
  rw [← marked_snoc]
  refine wpOp_mono (fun a' w' h' => ?_) (h a ha)
  rw [if_pos hk]
  exact h'
theorem x_held {P : Program} {N : Nat} {ops : Array Oper} {Q : Exit → Act → World → Prop} {kill : List Nat} {F : World → Prop} {w : World} {done : List Nat} {f : Fr} (hF : F w) (h : WD P N ops Q kill F done f w) :
    ∀ a, Has N f a → F w ∧ wpAnyF P ops Q kill F (ops.size - done.length) (marked ops.size done) a w := fun a ha => ⟨hF, h a ha⟩
end Go.Proofs.YtamccnffnljadaaDoor.X
