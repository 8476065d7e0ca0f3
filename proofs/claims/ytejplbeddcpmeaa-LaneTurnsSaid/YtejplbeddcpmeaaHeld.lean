/- A region that draws its order: quiet calls are taken first too, and loads whose cells are written behind them; no condition. -/
import Derived.Deep.RegionHeld3
namespace Go.Proofs.Ytejplbeddcpmeaa.Held
open Go
set_option linter.unusedVariables false

section
variable {P : Program} {ops : Array Oper} {Q : Exit → Act → World → Prop} {md : Region.Mode} {S S0 : World → Prop} {late : List Nat}

/-- In state a, in every world that meets T, the operation leaves v and nothing else has changed: a quiet call may be. -/
def YieldsQ (P : Program) (ops : Array Oper) (T : World → Prop) (o : Oper) (v : Value) (a : Act) : Prop :=
  (Region.wanted o (yielded ops a.tmps) = true ∧ ∀ w, T w → (execOp a.eval o).run P w = .ok (.value v) w ∨ ∃ f args, (execOp a.eval o).run P w = .ok (.enter f args) w ∧ Calls P f args w fun e w' => e = .returned v ∧ w = w') ∨
  (Region.wanted o (yielded ops a.tmps) = false ∧ v = undef)
theorem YieldsQ.wpOp {T : World → Prop} {i : Nat} {o : Oper} {v : Value} {a : Act} (hi : ops[i]? = some o) (hy : YieldsQ P ops T o v a)
    {K : Act → World → Prop} {w : World} (hS : T w) (h : K (a.put o.dst v) w) : wpOp P ops Q i K a w := by
  unfold Go.wpOp
  simp only [hi]
  rcases hy with ⟨hw, hv⟩ | ⟨hw, rfl⟩
  · simp only [hw, if_true, Oper.wp]
    rcases hv w hS with hv | ⟨f, args, hv, hc⟩
    · rw [hv]; exact .inl h
    · rw [hv]
      exact .inl (Calls.mono hc (fun e w' ⟨he, hw⟩ => by subst he; subst hw; exact h))
  · simp only [hw, Bool.false_eq_true, if_false]; exact h
theorem YieldsQ.of_same {T : World → Prop} {o : Oper} {v : Value} {a a' : Act} (hy : YieldsQ P ops T o v a) (he : execOp a'.eval o = execOp a.eval o)
    (hw : Region.wanted o (yielded ops a'.tmps) = Region.wanted o (yielded ops a.tmps)) : YieldsQ P ops T o v a' := by
  unfold YieldsQ at *
  rw [he, hw]
  exact hy
theorem wpOp_putQ {T : World → Prop} {j : Nat} {oi oj : Oper} {v : Value} (hj : ops[j]? = some oj) (hap : oi.apart ops oj = true)
    (hsi : ∀ cs b, oi.op ≠ .select cs b) (hsj : ∀ cs b, oj.op ≠ .select cs b)
    (hQ : ∀ c a w, Q (.panic c) (a.put oi.dst v) w → Q (.panic c) a w) {K : Act → World → Prop} {a : Act} {w : World}
    (hy : YieldsQ P ops T oi v a) (h : wpOp P ops Q j K (a.put oi.dst v) w) :
    wpOp P ops Q j (fun a' w' => YieldsQ P ops T oi v a' ∧ K (a'.put oi.dst v) w') a w := by
  obtain ⟨h1, h2, h3⟩ := Oper.apart_spec hap
  have keep : ∀ (a : Act), YieldsQ P ops T oi v a → ∀ u, YieldsQ P ops T oi v (a.put oj.dst u) := fun a hy u =>
    hy.of_same (execOp_put oi hsi a oj.dst u h3) (wanted_put oi a oj.dst u h3)
  have keepD : ∀ d, YieldsQ P ops T oi v { a with defers := d :: a.defers } := fun d => hy.of_same rfl rfl
  unfold wpOp at *
  simp only [hj] at *
  rw [wanted_put oj a oi.dst v h1] at h
  split
  · rename_i hw
    simp only [hw, if_true] at h
    rcases h with h | ⟨hasks, hlets⟩
    case inr => exact .inr ⟨by unfold Oper.asks at *; rw [execOp_put oj hsj a oi.dst v h1] at hasks; exact hasks, hlets⟩
    refine .inl ?_
    unfold Oper.wp at *
    rw [execOp_put oj hsj a oi.dst v h1] at h
    generalize (execOp a.eval oj).run P w = r at *
    cases r with
    | ok n w' =>
      cases n <;> simp only [Oper.upon] at h ⊢
      case value u => exact ⟨keep a hy u, by rw [← Act.put_comm a v u h2]; exact h⟩
      case skip => exact ⟨keep a hy _, by rw [← Act.put_comm a v undef h2]; exact h⟩
      case defer d =>
        refine ⟨keep _ (keepD d) _, ?_⟩
        rw [← Act.put_comm _ v undef h2, ← Act.put_defers]
        exact h
      case enter f args =>
        refine Calls.mono h fun e w'' he => ?_
        cases e with
        | returned u => exact ⟨keep a hy u, by rw [← Act.put_comm a v u h2]; exact he⟩
        | panicked c => exact hQ _ _ _ he
        | outgrown => exact he
      case row row args => exact Rows.mono h fun u w'' he => ⟨keep a hy u, by rw [← Act.put_comm a v u h2]; exact he⟩
    | halt x w' =>
      cases x <;> simp only [Oper.upon] at h ⊢
      case panic u => exact hQ _ _ _ h
  · rename_i hw
    simp only [hw] at h
    exact ⟨keep a hy _, by rw [← Act.put_comm a v undef h2]; exact h⟩

/-- None of these has come up. -/
def unl (late : List Nat) (listed : Array Bool) : Prop := ∀ k ∈ late, listed.getD k false = false
/-- S always; S0 as long as none of 'late' has come up. -/
def Hold (S S0 : World → Prop) (late : List Nat) (listed : Array Bool) (w : World) : Prop := S w ∧ (unl late listed → S0 w)
/-- Whatever order is picked from here on, and what is held holds behind each operation. -/
def wpAnyG (P : Program) (md : Region.Mode) (ops : Array Oper) (Q : Exit → Act → World → Prop) (S S0 : World → Prop) (late : List Nat) : Nat → Array Bool → Act → World → Prop
  | 0, listed, a, w => Region.ready md ops listed = [] ∧ Q .normal a w
  | fuel + 1, listed, a, w =>
    (Region.ready md ops listed = [] → Q .normal a w) ∧
    ∀ i ∈ Region.ready md ops listed, wpOp P ops Q i (fun a' w' => Hold S S0 late (listed.setIfInBounds i true) w' ∧ wpAnyG P md ops Q S S0 late fuel (listed.setIfInBounds i true) a' w') a w
theorem wpAny_of_G : ∀ (fuel : Nat) (listed : Array Bool) (a : Act) (w : World), wpAnyG P md ops Q S S0 late fuel listed a w → wpAny P md ops Q fuel listed a w
  | 0, _, _, _, h => h
  | fuel + 1, _, _, _, h => ⟨h.1, fun i hi => wpOp_mono (fun a' w' h' => wpAny_of_G fuel _ a' w' h'.2) (h.2 i hi)⟩
/-- Each of D waits for i, or for one of D that does. -/
def waitsB (md : Region.Mode) (ops : Array Oper) (i : Nat) (D : List Nat) : Bool :=
  D.all fun j => j != i && (match ops[j]? with
    | some o => o.after.any fun e => Region.binds md e && (e.on == i || D.contains e.on)
    | none => false)
theorem not_ready {i : Nat} {D : List Nat} (hd : waitsB md ops i D = true) {listed : Array Bool} (hi : listed.getD i false = false) (hD : ∀ k ∈ D, listed.getD k false = false) {j : Nat} (hj : j ∈ Region.ready md ops listed) : j ∉ D := by
  intro hm
  have h1 := List.all_eq_true.1 hd j hm
  obtain ⟨_, o, ho, hall⟩ := mem_ready.1 hj
  rw [ho] at h1
  simp only [Bool.and_eq_true] at h1
  obtain ⟨e, he, hb⟩ := Array.any_eq_true'.1 h1.2
  simp only [Bool.and_eq_true, Bool.or_eq_true, beq_iff_eq, List.contains_iff_mem] at hb
  have h2 := hall e he hb.1
  rcases hb.2 with q | q
  · rw [q, hi] at h2; cases h2
  · rw [hD _ q] at h2; cases h2
theorem set_false {listed : Array Bool} {i k : Nat} (h : i ≠ k) (hk : listed.getD k false = false) : (listed.setIfInBounds i true).getD k false = false := by
  rw [getD_set_ne false h]; exact hk
theorem ready_false {listed : Array Bool} {j : Nat} (hj : j ∈ Region.ready md ops listed) : listed.getD j false = false := by
  have h := (mem_ready.1 hj).1
  rcases Nat.lt_or_ge j listed.size with q | q
  · simp [q] at h ⊢; exact h
  · simp [Array.getElem?_eq_none q] at h

theorem wpAnyG_first {i : Nat} {oi : Oper} {v : Value} {D : List Nat} (hi : ops[i]? = some oi) (hsel : ∀ (j : Nat) (o : Oper) cs b, ops[j]? = some o → o.op ≠ .select cs b)
    (hQ : ∀ c a w, Q (.panic c) (a.put oi.dst v) w → Q (.panic c) a w) (hd : waitsB md ops i D = true) (hlD : ∀ k ∈ late, k ∈ D) :
    ∀ (fuel : Nat) (listed : Array Bool) (a : Act) (w : World),
      (∀ j oj, ops[j]? = some oj → j ≠ i → listed.getD j true = false → (∀ e ∈ oj.after, Region.binds md e = true → e.on ≠ i) → oi.apart ops oj = true) →
      (∀ k ∈ D, listed.getD k false = false) → i ∈ Region.ready md ops listed → YieldsQ P ops (fun w => S w ∧ S0 w) oi v a → S w → S0 w →
      wpAnyG P md ops Q S S0 late fuel (listed.setIfInBounds i true) (a.put oi.dst v) w → wpAnyG P md ops Q S S0 late (fuel + 1) listed a w := by
  have hiD : i ∉ D := fun hm => by
    have h1 := List.all_eq_true.1 hd i hm
    simp at h1
  intro fuel
  induction fuel with
  | zero =>
    intro listed a w _ _ hr hy hS hS0 H
    refine ⟨fun h => (by rw [h] at hr; cases hr), fun j hj => ?_⟩
    by_cases hji : j = i
    · subst hji; exact hy.wpOp hi ⟨hS, hS0⟩ ⟨⟨hS, fun _ => hS0⟩, H⟩
    · have := ready_mono hj hji
      rw [H.1] at this
      cases this
  | succ fuel ih =>
    intro listed a w hfree hDl hr hy hS hS0 H
    refine ⟨fun h => (by rw [h] at hr; cases hr), fun j hj => ?_⟩
    by_cases hji : j = i
    · subst hji; exact hy.wpOp hi ⟨hS, hS0⟩ ⟨⟨hS, fun _ => hS0⟩, H⟩
    · have h1 := H.2 j (ready_mono hj hji)
      have hjD := not_ready hd (ready_false hr) hDl hj
      obtain ⟨hjun, oj, hoj, hall⟩ := mem_ready.1 hj
      have hnot : ∀ e ∈ oj.after, Region.binds md e = true → e.on ≠ i := fun e he hb heq => by
        have h1 := hall e he hb
        rw [heq, ready_false hr] at h1
        cases h1
      have h2 := wpOp_putQ hoj (hfree j oj hoj hji hjun hnot) (fun cs b => hsel i oi cs b hi) (fun cs b => hsel j oj cs b hoj) hQ hy h1
      have hDl' : ∀ k ∈ D, (listed.setIfInBounds j true).getD k false = false := fun k hk => set_false (fun e => hjD (e ▸ hk)) (hDl k hk)
      have hun : unl late ((listed.setIfInBounds i true).setIfInBounds j true) := fun k hk => by
        have hkD := hlD k hk
        exact set_false (fun e => hjD (e ▸ hkD)) (set_false (fun e => hiD (e ▸ hkD)) (hDl k hkD))
      have hfree' : ∀ k ok, ops[k]? = some ok → k ≠ i → (listed.setIfInBounds j true).getD k true = false →
          (∀ e ∈ ok.after, Region.binds md e = true → e.on ≠ i) → oi.apart ops ok = true := fun k ok hk hki hun hno => by
        refine hfree k ok hk hki ?_ hno
        by_cases hjk : j = k
        · subst hjk; exact hjun
        · rw [getD_set_ne true hjk] at hun; exact hun
      refine wpOp_mono (fun a' w' h3 => ?_) h2
      obtain ⟨hy3, ⟨hs3, hs03⟩, h4⟩ := h3
      have hs0 := hs03 hun
      refine ⟨⟨hs3, fun _ => hs0⟩, ih (listed.setIfInBounds j true) a' w' hfree' hDl' (ready_mono hr (Ne.symm hji)) hy3 hs3 hs0 ?_⟩
      rw [Array.setIfInBounds_comm _ _ hji]
      exact h4
theorem wpAnyG_first1 {i : Nat} {oi : Oper} {v : Value} (hi : ops[i]? = some oi) (hsel : ∀ (j : Nat) (o : Oper) cs b, ops[j]? = some o → o.op ≠ .select cs b)
    (hQ : ∀ c a w, Q (.panic c) (a.put oi.dst v) w → Q (.panic c) a w) :
    ∀ (fuel : Nat) (listed : Array Bool) (a : Act) (w : World),
      (∀ j oj, ops[j]? = some oj → j ≠ i → listed.getD j true = false → (∀ e ∈ oj.after, Region.binds md e = true → e.on ≠ i) → oi.apart ops oj = true) →
      (late.contains i = false) → i ∈ Region.ready md ops listed → YieldsQ P ops S oi v a → Hold S S0 late listed w →
      wpAnyG P md ops Q S S0 late fuel (listed.setIfInBounds i true) (a.put oi.dst v) w → wpAnyG P md ops Q S S0 late (fuel + 1) listed a w := by
  have hset : ∀ {listed : Array Bool}, late.contains i = false → unl late (listed.setIfInBounds i true) → unl late listed := fun hl h k hk => by
    have hne : i ≠ k := fun e => by
      have : late.contains i = true := List.contains_iff_mem.2 (e ▸ hk)
      rw [hl] at this; cases this
    have := h k hk
    rw [getD_set_ne false hne] at this; exact this
  intro fuel
  induction fuel with
  | zero =>
    intro listed a w _ hl hr hy hS H
    refine ⟨fun h => (by rw [h] at hr; cases hr), fun j hj => ?_⟩
    by_cases hji : j = i
    · subst hji; exact hy.wpOp hi hS.1 ⟨⟨hS.1, fun h => hS.2 (hset hl h)⟩, H⟩
    · have := ready_mono hj hji
      rw [H.1] at this
      cases this
  | succ fuel ih =>
    intro listed a w hfree hl hr hy hS H
    refine ⟨fun h => (by rw [h] at hr; cases hr), fun j hj => ?_⟩
    by_cases hji : j = i
    · subst hji; exact hy.wpOp hi hS.1 ⟨⟨hS.1, fun h => hS.2 (hset hl h)⟩, H⟩
    · have h1 := H.2 j (ready_mono hj hji)
      obtain ⟨hjun, oj, hoj, hall⟩ := mem_ready.1 hj
      have hnot : ∀ e ∈ oj.after, Region.binds md e = true → e.on ≠ i := fun e he hb heq => by
        have h1 := hall e he hb
        rw [heq, ready_false hr] at h1
        cases h1
      have h2 := wpOp_putQ hoj (hfree j oj hoj hji hjun hnot) (fun cs b => hsel i oi cs b hi) (fun cs b => hsel j oj cs b hoj) hQ hy h1
      have hfree' : ∀ k ok, ops[k]? = some ok → k ≠ i → (listed.setIfInBounds j true).getD k true = false →
          (∀ e ∈ ok.after, Region.binds md e = true → e.on ≠ i) → oi.apart ops ok = true := fun k ok hk hki hun hno => by
        refine hfree k ok hk hki ?_ hno
        by_cases hjk : j = k
        · subst hjk; exact hjun
        · rw [getD_set_ne true hjk] at hun; exact hun
      refine wpOp_mono (fun a' w' h3 => ?_) h2
      obtain ⟨hy3, hs3, h4⟩ := h3
      rw [Array.setIfInBounds_comm _ _ (Ne.symm hji)] at hs3
      have hH : Hold S S0 late (listed.setIfInBounds j true) w' := ⟨hs3.1, fun h => hs3.2 (fun k hk => by
        have hne : i ≠ k := fun e => by
          have : late.contains i = true := List.contains_iff_mem.2 (e ▸ hk)
          rw [hl] at this; cases this
        exact set_false hne (h k hk))⟩
      refine ⟨hH, ih (listed.setIfInBounds j true) a' w' hfree' hl (ready_mono hr (Ne.symm hji)) hy3 hH ?_⟩
      rw [Array.setIfInBounds_comm _ _ hji]
      exact h4
/-- Take number i first, of what is always held alone. -/
theorem take1 {i : Nat} {oi : Oper} {v : Value} {fuel : Nat} {listed : Array Bool} {a : Act} {w : World} (hi : ops[i]? = some oi)
    (hs : Region.noSelect ops = true) (hl : late.contains i = false) (hf : Region.free md ops listed i = true) (hr : (Region.ready md ops listed).contains i = true)
    (hQ : ∀ c a w, Q (.panic c) (a.put oi.dst v) w → Q (.panic c) a w) (hy : YieldsQ P ops S oi v a) (hS : Hold S S0 late listed w)
    (h : Hold S S0 late (listed.setIfInBounds i true) w → wpAnyG P md ops Q S S0 late fuel (listed.setIfInBounds i true) (a.put oi.dst v) w) : wpAnyG P md ops Q S S0 late (fuel + 1) listed a w := by
  refine wpAnyG_first1 hi (Region.noSelect_spec hs) hQ fuel listed a w (Region.free_spec hi hf) hl (by simpa using hr) hy hS (h ⟨hS.1, fun q => hS.2 (fun k hk => ?_)⟩)
  have hne : i ≠ k := fun e => by
    have : late.contains i = true := List.contains_iff_mem.2 (e ▸ hk)
    rw [hl] at this; cases this
  have := q k hk
  rw [getD_set_ne false hne] at this; exact this
/-- Take number i first. -/
theorem take {i : Nat} {oi : Oper} {v : Value} {fuel : Nat} {listed : Array Bool} {a : Act} {w : World} (D : List Nat) (hi : ops[i]? = some oi)
    (hs : Region.noSelect ops = true) (hd : waitsB md ops i D = true) (hl : late.all (D.contains ·) = true) (hD : D.all (fun k => !listed.getD k false) = true) (hf : Region.free md ops listed i = true) (hr : (Region.ready md ops listed).contains i = true)
    (hQ : ∀ c a w, Q (.panic c) (a.put oi.dst v) w → Q (.panic c) a w) (hy : YieldsQ P ops (fun w => S w ∧ S0 w) oi v a) (hS : Hold S S0 late listed w)
    (h : Hold S S0 late (listed.setIfInBounds i true) w → wpAnyG P md ops Q S S0 late fuel (listed.setIfInBounds i true) (a.put oi.dst v) w) : wpAnyG P md ops Q S S0 late (fuel + 1) listed a w := by
  have hD' : ∀ k ∈ D, listed.getD k false = false := fun k hk => by have := List.all_eq_true.1 hD k hk; simpa using this
  have hlD : ∀ k ∈ late, k ∈ D := fun k hk => by have := List.all_eq_true.1 hl k hk; simpa using this
  have h0 : S0 w := hS.2 (fun k hk => hD' k (hlD k hk))
  exact wpAnyG_first hi (Region.noSelect_spec hs) hQ hd hlD fuel listed a w (Region.free_spec hi hf) hD' (by simpa using hr) hy hS.1 h0 (h ⟨hS.1, fun _ => h0⟩)
/-- The beginning. -/
theorem begin_ (S S0 : World → Prop) (late : List Nat) {id : Nat} {a : Act} {w : World} (hm : P.follows .mixedOrders = true) (hS : S w.drew) (h0 : S0 w.drew)
    (h : Hold S S0 late (Array.replicate ops.size false) w.drew → wpAnyG P .any ops Q S S0 late ops.size (Array.replicate ops.size false) a w.drew) : (Code.region id ops true).wp P Q a w :=
  wp_region_any hm (wpAny_of_G _ _ _ _ (h ⟨hS, fun _ => h0⟩))
/-- Each of the operations rs comes up next. -/
def AllG (P : Program) (md : Region.Mode) (ops : Array Oper) (Q : Exit → Act → World → Prop) (S S0 : World → Prop) (late : List Nat) (fuel : Nat) (listed : Array Bool) (a : Act) (w : World) (rs : List Nat) : Prop :=
  ∀ i ∈ rs, wpOp P ops Q i (fun a' w' => Hold S S0 late (listed.setIfInBounds i true) w' ∧ wpAnyG P md ops Q S S0 late fuel (listed.setIfInBounds i true) a' w') a w
theorem AllG.nil {fuel : Nat} {listed : Array Bool} {a : Act} {w : World} : AllG P md ops Q S S0 late fuel listed a w [] := fun _ h => by cases h
theorem AllG.cons {fuel : Nat} {listed : Array Bool} {a : Act} {w : World} {i : Nat} {o : Oper} {rs : List Nat} (ho : ops[i]? = some o)
    (h : ∀ K' : Act → World → Prop, Shut (∀ a w, Hold S S0 late (listed.setIfInBounds i true) w → (Hold S S0 late (listed.setIfInBounds i true) w → wpAnyG P md ops Q S S0 late fuel (listed.setIfInBounds i true) a w) → K' a w) → if Region.wanted o (yielded ops a.tmps) = true then Oper.wp P o a w K' Q else K' (a.put o.dst undef) w)
    (hs : AllG P md ops Q S S0 late fuel listed a w rs) : AllG P md ops Q S S0 late fuel listed a w (i :: rs) := fun j hj => by
  rcases List.mem_cons.1 hj with rfl | hj
  · exact wpOp_step ho (fun K' hK => h K' (fun a w hS hW => hK a w ⟨hS, hW hS⟩))
  · exact hs j hj
theorem ready {rs : List Nat} {fuel : Nat} {listed : Array Bool} {a : Act} {w : World} (hr : Region.ready md ops listed = rs) (hne : rs ≠ [])
    (h : AllG P md ops Q S S0 late fuel listed a w rs) : wpAnyG P md ops Q S S0 late (fuel + 1) listed a w :=
  ⟨fun h0 => absurd (hr ▸ h0) hne, hr ▸ h⟩
theorem done {listed : Array Bool} {a : Act} {w : World} (hr : Region.ready md ops listed = []) (h : Q .normal a w) :
    ∀ fuel, wpAnyG P md ops Q S S0 late fuel listed a w
  | 0 => ⟨hr, h⟩
  | _ + 1 => ⟨fun _ => h, by rw [hr]; simp⟩
end
end Go.Proofs.Ytejplbeddcpmeaa.Held
