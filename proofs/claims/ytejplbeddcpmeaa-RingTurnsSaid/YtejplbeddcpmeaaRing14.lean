/- One step of an act while another one is under way; what was done so far, in order; the order of Marks; no condition. -/
import Derived.Test.YtejplbeddcpmeaaRing8
import Derived.Test.YtejplbeddcpmeaaPRingTurnsx2
namespace Go.Proofs.Ytejplbeddcpmeaa.Ring
open Go.RowKit Go.Proofs.Ytejplbeddcpmeaa.PRingTurns Go.Proofs.YtejplbeddcpmeaaW.PrintWords Go.Proofs.YtejplbeddcpmeaaW.PrintLast Go.Proofs.YtejplbeddcpmeaaW.PrintMore Go.Proofs.Ytejplbeddcpmeaa.Heap Go.Proofs.Ytejplbeddcpmeaa.Mem
set_option linter.unusedVariables false
set_option linter.unusedSimpArgs false

/-- A Push under way, c steps behind its begin. -/
def PP (s : LR) (A : ActS) (c v : Int) : Prop :=
  (A = ⟨true, 74, v, false, 0, false⟩ ∧ c = 0) ∨ (A = ⟨true, 81, v, false, 0, false⟩ ∧ s.len < s.size ∧ c = 1) ∨ (A = ⟨true, 84, v, false, 0, false⟩ ∧ s.laid = some v ∧ c = 2)
/-- A Pop under way. -/
def GP (s : LR) (A : ActS) (c : Int) : Prop :=
  (A = ⟨false, 75, 0, false, 0, false⟩ ∧ c = 0) ∨ (A = ⟨false, 82, 0, false, 0, false⟩ ∧ s.L ≠ [] ∧ c = 1) ∨ (∃ v L, A = ⟨false, 85, v, false, 0, false⟩ ∧ s.L = v :: L ∧ c = 2)
structure StepR (w : World) (p : Mp) (g x : Nat) (M : MemS) (s : LR) (w' : World) (M' : MemS) (s' : LR) (ib ob : Bool) (A' : ActS) : Prop where
  all : All w' p g x M' (s'.ring ib ob) A'
  inv : s'.Inv M'
  t : M'.time = M.time + 1
  sz : s'.size = s.size
  chg : Chg (Mra p g x) w w'
theorem GP.push {s s' : LR} {B : ActS} {d v : Int} (h : GP s B d) (e : s'.L = s.L ++ [v]) : GP s' B d := by
  rcases h with h | ⟨h1, h2, h3⟩ | ⟨u, L, h1, h2, h3⟩
  · exact .inl h
  · exact .inr (.inl ⟨h1, by rw [e]; simp, h3⟩)
  · exact .inr (.inr ⟨u, L ++ [v], h1, by rw [e, h2]; rfl, h3⟩)
theorem GP.same {s s' : LR} {B : ActS} {d : Int} (h : GP s B d) (e : s'.L = s.L) : GP s' B d := by
  rcases h with h | ⟨h1, h2, h3⟩ | ⟨u, L, h1, h2, h3⟩
  · exact .inl h
  · exact .inr (.inl ⟨h1, by rw [e]; exact h2, h3⟩)
  · exact .inr (.inr ⟨u, L, h1, by rw [e, h2], h3⟩)
theorem PP.keep {s s' : LR} {A : ActS} {c v : Int} (h : PP s A c v) (e : s'.len ≤ s.len) (z : s'.size = s.size) (l : s'.laid = s.laid) : PP s' A c v := by
  rcases h with h | ⟨h1, h2, h3⟩ | ⟨h1, h2, h3⟩
  · exact .inl h
  · exact .inr (.inl ⟨h1, by omega, h3⟩)
  · exact .inr (.inr ⟨h1, by rw [l]; exact h2, h3⟩)

theorem push_step (w : World) (p : Mp) (g x : Nat) (M : MemS) (s : LR) (ob : Bool) (A : ActS) (c v : Int) (h : All w p g x M (s.ring true ob) A) (hI : s.Inv M) (ht : M.time < 4611686018427387900) (hp : PP s A c v) :
    Calls Try.prog 36 #[pt x] w fun e w' => ∃ M' s' A',
      (e = .returned (.bool false) ∧ StepR w p g x M s w' M' s' true ob A' ∧ s'.L = s.L ∧ PP s' A' (c + 1) v) ∨
      (e = .returned (.bool true) ∧ StepR w p g x M s w' M' s' false ob A' ∧ A'.over = true ∧ A'.mark = M.time + 1 ∧ A'.value = v ∧ ((A'.ok = true ∧ s.len < s.size ∧ s'.L = s.L ++ [v]) ∨ (A'.ok = false ∧ ¬ s.len < s.size ∧ s'.L = s.L))) := by
  rcases hp with ⟨rfl, rfl⟩ | ⟨rfl, hl, rfl⟩ | ⟨rfl, hl, rfl⟩
  · by_cases c : s.len < s.size
    · refine (lroom_free w p g x M s ob _ h hI ht rfl rfl rfl c).mono ?_
      rintro e w' ⟨rfl, ha, hc⟩
      exact ⟨_, s, _, .inl ⟨rfl, ⟨ha, Inv.load hI _, load_tick (has1 hI), rfl, hc⟩, rfl, .inr (.inl ⟨rfl, c, rfl⟩)⟩⟩
    · refine (lroom_full w p g x M s ob _ h hI ht rfl rfl rfl (by have := hI.len; omega)).mono ?_
      rintro e w' ⟨rfl, ha, hc⟩
      exact ⟨_, s, _, .inr ⟨rfl, ⟨ha, Inv.load hI _, load_tick (has1 hI), rfl, hc⟩, rfl, rfl, rfl, .inr ⟨rfl, c, rfl⟩⟩⟩
  · refine (llay w p g x M s ob _ h hI ht rfl rfl rfl).mono ?_
    rintro e w' ⟨rfl, ha, hc⟩
    exact ⟨_, { s with laid := some v }, _, .inl ⟨rfl, ⟨ha, Inv.lay hI hl v, store_tick (slot_has hI _) _, rfl, hc⟩, rfl, .inr (.inr ⟨rfl, rfl, rfl⟩)⟩⟩
  · have hlt := (hI.laid v hl).1
    refine (ltell w p g x M s ob _ h hI ht rfl rfl rfl v).mono ?_
    rintro e w' ⟨rfl, ha, hc⟩
    exact ⟨_, { s with laid := none, L := s.L ++ [v] }, _, .inr ⟨rfl, ⟨ha, Inv.tell hI hl, store_tick (has0 hI) _, rfl, hc⟩, rfl, rfl, rfl, .inl ⟨rfl, hlt, rfl⟩⟩⟩

theorem pop_step (w : World) (p : Mp) (g x : Nat) (M : MemS) (s : LR) (ib : Bool) (A : ActS) (c : Int) (h : All w p g x M (s.ring ib true) A) (hI : s.Inv M) (ht : M.time < 4611686018427387900) (hp : GP s A c) :
    Calls Try.prog 36 #[pt x] w fun e w' => ∃ M' s' A',
      (e = .returned (.bool false) ∧ StepR w p g x M s w' M' s' ib true A' ∧ (s'.L = s.L ∧ s'.laid = s.laid) ∧ GP s' A' (c + 1)) ∨
      (e = .returned (.bool true) ∧ StepR w p g x M s w' M' s' ib false A' ∧ A'.over = true ∧ A'.mark = M.time + 1 ∧ s'.laid = s.laid ∧ ((A'.ok = true ∧ s.L = A'.value :: s'.L) ∨ (A'.ok = false ∧ s.L = [] ∧ s'.L = []))) := by
  rcases hp with ⟨rfl, rfl⟩ | ⟨rfl, hl, rfl⟩ | ⟨v, L, rfl, hl, rfl⟩
  · by_cases c : s.L = []
    · refine (lsome_none w p g x M s ib _ h hI ht rfl rfl rfl c).mono ?_
      rintro e w' ⟨rfl, ha, hc⟩
      exact ⟨_, s, _, .inr ⟨rfl, ⟨ha, Inv.load hI _, load_tick (has0 hI), rfl, hc⟩, rfl, rfl, rfl, .inr ⟨rfl, c, c⟩⟩⟩
    · refine (lsome_one w p g x M s ib _ h hI ht rfl rfl rfl c).mono ?_
      rintro e w' ⟨rfl, ha, hc⟩
      exact ⟨_, s, _, .inl ⟨rfl, ⟨ha, Inv.load hI _, load_tick (has0 hI), rfl, hc⟩, ⟨rfl, rfl⟩, .inr (.inl ⟨rfl, c, rfl⟩)⟩⟩
  · obtain ⟨v, L, hv⟩ : ∃ v L, s.L = v :: L := by cases e : s.L with
      | nil => exact absurd e hl
      | cons v L => exact ⟨v, L, rfl⟩
    refine (lget w p g x M s ib _ h hI ht rfl rfl rfl v L hv).mono ?_
    rintro e w' ⟨rfl, ha, hc⟩
    exact ⟨_, s, _, .inl ⟨rfl, ⟨ha, Inv.load hI _, load_tick (hd_has hI), rfl, hc⟩, ⟨rfl, rfl⟩, .inr (.inr ⟨v, L, rfl, hv, rfl⟩)⟩⟩
  · refine (lleave w p g x M s ib _ h hI ht rfl rfl rfl v L hl).mono ?_
    rintro e w' ⟨rfl, ha, hc⟩
    exact ⟨_, { s with a := (s.a + 1) % s.size, cnt := IntKind.u64.wrap (s.cnt + 1), L := L }, _, .inr ⟨rfl, ⟨ha, Inv.leave hI hl, store_tick (has1 hI) _, rfl, hc⟩, rfl, rfl, rfl, .inl ⟨rfl, hl⟩⟩⟩

/-- What an act that took effect did to the queue. -/
def RSt (n : Int) (vs : List Int) (L : List Int) (A : ActS) (q : Int) (L' : List Int) : Prop :=
  if 0 ≤ q then ((L.length : Int) < n ∧ A.ok = true ∧ A.value = rd vs q ∧ L' = L ++ [rd vs q]) ∨ (¬ (L.length : Int) < n ∧ A.ok = false ∧ L' = L)
  else (L = A.value :: L' ∧ A.ok = true) ∨ (L = [] ∧ A.ok = false ∧ L' = [])
abbrev mks (As : List ActS) : List Int := As.map ActS.mark
/-- What was done so far: H: which acts, in order of their Marks; Ls: the queue ahead of each. -/
structure Hist (n : Int) (vs : List Int) (As : List ActS) (ps : List Int) (H : List Nat) (Ls : Nat → List Int) (L : List Int) (T : Int) : Prop where
  len : ps.length = As.length
  h0 : Ls 0 = []
  hs : ∀ (j i : Nat) (A : ActS) (q : Int), H[j]? = some i → As[i]? = some A → ps[i]? = some q → RSt n vs (Ls j) A q (Ls (j + 1))
  he : Ls H.length = L
  ov : ∀ (i : Nat) (A : ActS), As[i]? = some A → (i ∈ H ↔ A.over = true)
  mko : ∀ (i : Nat) (A : ActS), As[i]? = some A → (A.over = true → 0 < A.mark ∧ A.mark ≤ T) ∧ (A.over = false → A.mark = 0)
  lt : ∀ i : Nat, i ∈ H → i < As.length
  so : H.Pairwise (fun (i j : Nat) => rd (mks As) (i : Int) < rd (mks As) (j : Int))

theorem rd_mks {As : List ActS} {i : Nat} {A : ActS} (h : As[i]? = some A) : rd (mks As) (i : Int) = A.mark := by
  simp [rd, List.getD_eq_getElem?_getD, h]
theorem set_get {α : Type} {l : List α} {i j : Nat} {a b : α} (h : (l.set i a)[j]? = some b) (hi : i < l.length) : (j = i ∧ b = a) ∨ (j ≠ i ∧ l[j]? = some b) := by
  by_cases e : i = j
  · subst e; rw [List.getElem?_set_self hi] at h; exact .inl ⟨rfl, (Option.some.inj h).symm⟩
  · rw [List.getElem?_set_ne e] at h; exact .inr ⟨fun x => e x.symm, h⟩
theorem app_get {α : Type} {l : List α} {j : Nat} {a b : α} (h : (l ++ [a])[j]? = some b) : (j = l.length ∧ b = a) ∨ (j < l.length ∧ l[j]? = some b) := by
  by_cases e : j < l.length
  · rw [List.getElem?_append_left e] at h; exact .inr ⟨e, h⟩
  · rw [List.getElem?_append_right (by omega)] at h
    have : j - l.length = 0 := by
      rcases Nat.eq_zero_or_pos (j - l.length) with h0 | h0
      · exact h0
      · obtain ⟨k, hk⟩ : ∃ k, j - l.length = k + 1 := ⟨j - l.length - 1, by omega⟩
        rw [hk] at h; simp at h
    rw [this] at h
    exact .inl ⟨by omega, (Option.some.inj h).symm⟩
theorem Hist.nil (n : Int) (vs : List Int) (T : Int) : Hist n vs [] [] [] (fun _ => []) [] T :=
  ⟨rfl, rfl, fun j i A q h => by simp at h, rfl, fun i A h => by simp at h, fun i A h => by simp at h, fun i h => by simp at h, List.Pairwise.nil⟩
theorem Hist.more {n : Int} {vs : List Int} {As : List ActS} {ps : List Int} {H : List Nat} {Ls : Nat → List Int} {L : List Int} {T T' : Int} (h : Hist n vs As ps H Ls L T) (ht : T ≤ T') : Hist n vs As ps H Ls L T' :=
  ⟨h.len, h.h0, h.hs, h.he, h.ov, fun i A hi => ⟨fun ho => by have := (h.mko i A hi).1 ho; omega, (h.mko i A hi).2⟩, h.lt, h.so⟩
/-- A new act. -/
theorem Hist.begin {n : Int} {vs : List Int} {As : List ActS} {ps : List Int} {H : List Nat} {Ls : Nat → List Int} {L : List Int} {T : Int} (h : Hist n vs As ps H Ls L T) (A : ActS) (q : Int) (ho : A.over = false) (hm : A.mark = 0) :
    Hist n vs (As ++ [A]) (ps ++ [q]) H Ls L T := by
  have hold : ∀ i, i ∈ H → rd (mks (As ++ [A])) (i : Int) = rd (mks As) (i : Int) := fun i hi => by
    have := h.lt i hi
    simp only [rd, mks, List.map_append, Int.toNat_natCast, List.getD_eq_getElem?_getD]
    rw [List.getElem?_append_left (by simpa using this)]
  refine ⟨by simp [h.len], h.h0, fun j i B q' hj hi hq => ?_, h.he, fun i B hi => ?_, fun i B hi => ?_, fun i hi => by have := h.lt i hi; simp; omega, ?_⟩
  · have hlt := h.lt i (List.mem_of_getElem? hj)
    rcases app_get hi with ⟨e, _⟩ | ⟨_, hi⟩
    · omega
    · rcases app_get hq with ⟨e, _⟩ | ⟨_, hq⟩
      · have := h.len; omega
      · exact h.hs j i B q' hj hi hq
  · rcases app_get hi with ⟨e, rfl⟩ | ⟨_, hi⟩
    · constructor
      · intro hm; have := h.lt i hm; omega
      · intro hc; rw [ho] at hc; cases hc
    · exact h.ov i B hi
  · rcases app_get hi with ⟨e, rfl⟩ | ⟨_, hi⟩
    · exact ⟨fun hc => (by rw [ho] at hc; cases hc), fun _ => hm⟩
    · exact h.mko i B hi
  · refine h.so.imp_of_mem ?_
    intro a b ha hb hab
    rw [hold a ha, hold b hb]; exact hab
theorem not_mem {n : Int} {vs : List Int} {As : List ActS} {ps : List Int} {H : List Nat} {Ls : Nat → List Int} {L : List Int} {T : Int} (h : Hist n vs As ps H Ls L T) {d : Nat} {A : ActS} (hd : As[d]? = some A) (ho : A.over = false) : d ∉ H := fun hm => by
  have := (h.ov d A hd).1 hm; rw [ho] at this; cases this
theorem mks_set {As : List ActS} {d : Nat} {A' : ActS} {i : Nat} (hi : i ≠ d) : rd (mks (As.set d A')) (i : Int) = rd (mks As) (i : Int) := by
  simp [rd, List.getD_eq_getElem?_getD, List.getElem?_set_ne (Ne.symm hi)]
/-- An act goes on. -/
theorem Hist.goes {n : Int} {vs : List Int} {As : List ActS} {ps : List Int} {H : List Nat} {Ls : Nat → List Int} {L : List Int} {T : Int} (h : Hist n vs As ps H Ls L T) {d : Nat} {A A' : ActS} (hd : As[d]? = some A) (ho : A.over = false) (ho' : A'.over = false) (hm : A'.mark = 0) :
    Hist n vs (As.set d A') ps H Ls L T := by
  have hn := not_mem h hd ho
  have hlt : d < As.length := (List.getElem?_eq_some_iff.1 hd).1
  refine ⟨by simp [h.len], h.h0, fun j i B q' hj hi hq => ?_, h.he, fun i B hi => ?_, fun i B hi => ?_, fun i hi => by have := h.lt i hi; simpa using this, ?_⟩
  · rcases set_get hi hlt with ⟨rfl, _⟩ | ⟨_, hi⟩
    · exact absurd (List.mem_of_getElem? hj) hn
    · exact h.hs j i B q' hj hi hq
  · rcases set_get hi hlt with ⟨rfl, rfl⟩ | ⟨_, hi⟩
    · exact ⟨fun hm => absurd hm hn, fun hc => by rw [ho'] at hc; cases hc⟩
    · exact h.ov i B hi
  · rcases set_get hi hlt with ⟨rfl, rfl⟩ | ⟨_, hi⟩
    · exact ⟨fun hc => (by rw [ho'] at hc; cases hc), fun _ => hm⟩
    · exact h.mko i B hi
  · refine h.so.imp_of_mem ?_
    intro a b ha hb hab
    rw [mks_set (show a ≠ d from fun e => hn (e ▸ ha)), mks_set (show b ≠ d from fun e => hn (e ▸ hb))]; exact hab
/-- An act takes effect. -/
theorem Hist.done {n : Int} {vs : List Int} {As : List ActS} {ps : List Int} {H : List Nat} {Ls : Nat → List Int} {L : List Int} {T : Int} (h : Hist n vs As ps H Ls L T) (hT : 0 ≤ T) {d : Nat} {A A' : ActS} {q : Int} {L' : List Int} (hd : As[d]? = some A) (hq : ps[d]? = some q) (ho : A.over = false) (ho' : A'.over = true) (hm : A'.mark = T + 1) (hr : RSt n vs L A' q L') :
    Hist n vs (As.set d A') ps (H ++ [d]) (fun j => if j ≤ H.length then Ls j else L') L' (T + 1) := by
  have hn := not_mem h hd ho
  have hlt : d < As.length := (List.getElem?_eq_some_iff.1 hd).1
  refine ⟨by simp [h.len], by simp [h.h0], fun j i B q' hj hi hq' => ?_, by simp only [List.length_append, List.length_singleton]; rw [if_neg (by omega)], fun i B hi => ?_, fun i B hi => ?_, fun i hi => ?_, ?_⟩
  · rcases app_get hj with ⟨e1, e2⟩ | ⟨hj1, hj2⟩
    · subst e1
      rcases set_get hi hlt with ⟨_, e3⟩ | ⟨hne, _⟩
      · subst e3; subst e2
        rw [hq] at hq'; cases hq'
        show RSt n vs (if H.length ≤ H.length then Ls H.length else L') _ q (if H.length + 1 ≤ H.length then Ls (H.length + 1) else L')
        rw [if_pos (Nat.le_refl _), if_neg (by omega), h.he]
        exact hr
      · exact absurd e2 hne
    · rcases set_get hi hlt with ⟨e3, _⟩ | ⟨_, hi2⟩
      · exact absurd (e3 ▸ List.mem_of_getElem? hj2) hn
      · show RSt n vs (if j ≤ H.length then Ls j else L') B q' (if j + 1 ≤ H.length then Ls (j + 1) else L')
        rw [if_pos (by omega), if_pos (by omega)]
        exact h.hs j i B q' hj2 hi2 hq'
  · rcases set_get hi hlt with ⟨rfl, rfl⟩ | ⟨hne, hi⟩
    · exact ⟨fun _ => ho', fun _ => by simp⟩
    · rw [← h.ov i B hi]; simp [hne]
  · rcases set_get hi hlt with ⟨rfl, rfl⟩ | ⟨hne, hi⟩
    · exact ⟨fun _ => by omega, fun hc => by rw [ho'] at hc; cases hc⟩
    · exact ⟨fun hc => by have := (h.mko i B hi).1 hc; omega, (h.mko i B hi).2⟩
  · rw [List.mem_append] at hi
    rcases hi with hi | hi
    · have := h.lt i hi; simpa using this
    · have : i = d := by simpa using hi
      subst this; simpa using hlt
  · rw [List.pairwise_append]
    refine ⟨h.so.imp_of_mem ?_, List.pairwise_singleton _ _, ?_⟩
    · intro a b ha hb hab
      rw [mks_set (show a ≠ d from fun e => hn (e ▸ ha)), mks_set (show b ≠ d from fun e => hn (e ▸ hb))]; exact hab
    · intro a ha b hb
      have hb' : b = d := by simpa using hb
      rw [hb', mks_set (show a ≠ d from fun e => hn (e ▸ ha)), rd_mks (List.getElem?_set_self hlt), hm]
      obtain ⟨B, hB⟩ : ∃ B, As[a]? = some B := ⟨_, List.getElem?_eq_getElem (h.lt a ha)⟩
      rw [rd_mks hB]
      have := (h.mko a B hB).1 ((h.ov a B hB).1 ha)
      omega

/-- Two neighbours change places. -/
theorem swap_app (U V : List Int) (a b : Int) : ((U ++ a :: b :: V).set U.length b).set (U.length + 1) a = U ++ b :: a :: V := by
  induction U with
  | nil => rfl
  | cons u U ih => simp only [List.cons_append, List.length_cons, List.set_cons_succ]; rw [ih]
theorem rd_app (U V : List Int) (a : Int) (n : Nat) (hn : n = U.length) : rd (U ++ a :: V) (n : Int) = a := by
  subst hn; simp [rd, List.getD_eq_getElem?_getD]
abbrev ints (l : List Nat) : List Int := l.map Int.ofNat
theorem ord_in (ms : List Int) (H : List Nat) (hl : ms.length ≤ 1000000) (R : List Int × Bool) (i : Nat) (hi : i < ms.length) (P V : List Nat)
    (hnext : ∃ k, patchbayref12_Order.l0 k ms (ints (P ++ i :: V)) ((i + 1 : Nat) : Int) = some R) (hP : ∀ q ∈ P, q < ms.length ∧ rd ms (q : Int) < rd ms (i : Int)) :
    ∀ (n : Nat) (S1 S2 : List Nat), S1.length = n → V = S1 ++ S2 → (∀ q ∈ S1, q < ms.length ∧ rd ms (i : Int) < rd ms (q : Int)) → (P ++ V).length ≤ 1000000 → ∃ k, patchbayref12_Order.l1 k ms (ints (P ++ S1 ++ i :: S2)) (i : Int) (((P ++ S1).length : Nat) : Int) = some R := by
  intro n
  induction n with
  | zero =>
    intro S1 S2 h1 hV hS hlen
    obtain ⟨k, hk⟩ := hnext
    have hS1 : S1 = [] := List.length_eq_zero_iff.1 h1
    subst hS1
    rw [List.nil_append] at hV
    subst hV
    rw [List.append_nil]
    have hw : wrap64 ((i : Int) + 1) = ((i + 1 : Nat) : Int) := by unfold wrap64; omega
    refine ⟨k + 1, ?_⟩
    rw [patchbayref12_Order.l1]
    rcases List.eq_nil_or_concat P with rfl | ⟨P', q, rfl⟩
    · rw [if_neg (by simp), hw]; exact hk
    · have hq := hP q (by simp)
      have hlen' : (P' ++ [q]).length = P'.length + 1 := by simp
      rw [List.length_append, List.concat_eq_append, hlen'] at hlen
      have e1 : wrap64 ((((P'.concat q).length : Nat) : Int) - 1) = ((P'.length : Nat) : Int) := by rw [List.concat_eq_append, hlen']; unfold wrap64; omega
      have e2 : rd (ints (P'.concat q ++ i :: V)) ((P'.length : Nat) : Int) = (q : Int) := by
        rw [List.concat_eq_append]; unfold ints; rw [List.append_assoc, List.map_append]; exact rd_app _ _ _ _ (by simp)
      have e3 : rd (ints (P'.concat q ++ i :: V)) (((P'.concat q).length : Nat) : Int) = (i : Int) := by
        unfold ints; rw [List.map_append]; exact rd_app _ _ _ _ (by simp)
      have e4 : (ints (P'.concat q ++ i :: V)).length = P'.length + 1 + (V.length + 1) := by simp; omega
      have e5 : (P'.concat q).length = P'.length + 1 := by simp
      rw [e1, e2, e3, e4, if_pos (by rw [e5]; omega), if_pos (by omega), if_pos (by omega), if_pos (by omega), if_pos (by have := hq.1; omega), if_pos (by omega), if_pos (by rw [e5]; omega), if_pos (by omega), if_pos (by omega), if_neg (by have := hq.2; omega), if_pos hq.2, hw]
      exact hk
  | succ n ih =>
    intro S1 S2 h1 hV hS hlen
    rcases List.eq_nil_or_concat S1 with rfl | ⟨S', q, rfl⟩
    · simp at h1
    · have hq := hS q (by simp)
      have hl1 : S'.length = n := by simpa using h1
      obtain ⟨k, hk⟩ := ih S' (q :: S2) hl1 (by rw [hV]; simp) (fun a ha => hS a (by simp [ha])) hlen
      refine ⟨k + 1, ?_⟩
      have hVl : V.length = S'.length + 1 + S2.length := by rw [hV]; simp; omega
      rw [List.length_append, hVl] at hlen
      have el : (P ++ S'.concat q).length = P.length + S'.length + 1 := by simp; omega
      have el2 : (P ++ S').length = P.length + S'.length := by simp
      have eA : ints (P ++ S'.concat q ++ i :: S2) = ints (P ++ S') ++ (q : Int) :: (i : Int) :: ints S2 := by
        rw [List.concat_eq_append]; simp
      have eB : ints (P ++ S' ++ i :: q :: S2) = ints (P ++ S') ++ (i : Int) :: (q : Int) :: ints S2 := by simp
      have eL : (ints (P ++ S')).length = P.length + S'.length := by simp
      have e1 : wrap64 (((P.length + S'.length + 1 : Nat) : Int) - 1) = ((P.length + S'.length : Nat) : Int) := by unfold wrap64; omega
      have e2 : rd (ints (P ++ S') ++ (q : Int) :: (i : Int) :: ints S2) ((P.length + S'.length : Nat) : Int) = (q : Int) := rd_app _ _ _ _ eL.symm
      have e3 : rd (ints (P ++ S') ++ (q : Int) :: (i : Int) :: ints S2) ((P.length + S'.length + 1 : Nat) : Int) = (i : Int) := by
        rw [show ints (P ++ S') ++ (q : Int) :: (i : Int) :: ints S2 = (ints (P ++ S') ++ [(q : Int)]) ++ (i : Int) :: ints S2 by simp]
        exact rd_app _ _ _ _ (by rw [List.length_append, eL]; rfl)
      have e4 : (ints (P ++ S') ++ (q : Int) :: (i : Int) :: ints S2).length = P.length + S'.length + 2 + S2.length := by rw [List.length_append, eL]; simp; omega
      have e6 : ((ints (P ++ S') ++ (q : Int) :: (i : Int) :: ints S2).set ((P.length + S'.length : Nat) : Int).toNat (i : Int)).set ((P.length + S'.length + 1 : Nat) : Int).toNat (q : Int) = ints (P ++ S') ++ (i : Int) :: (q : Int) :: ints S2 := by
        rw [Int.toNat_natCast, Int.toNat_natCast, ← eL]; exact swap_app _ _ _ _
      rw [patchbayref12_Order.l1, el, eA, e1, e2, e3, e4, if_pos (by omega), if_pos (by omega), if_pos (by omega), if_pos (by omega), if_pos (by have := hq.1; omega), if_pos (by omega), if_pos (by omega), if_pos (by omega), if_pos (by omega), if_neg (by have := hq.2; omega), if_neg (by have := hq.2; omega), e6, ← eB]
      rw [el2] at hk
      exact hk
theorem split_mem {H : List Nat} {i : Nat} (h : i ∈ H) : ∃ H1 H2, H = H1 ++ i :: H2 := List.append_of_mem h
theorem ord_eq (ms : List Int) (H : List Nat) (hl : ms.length ≤ 1000000) (hin : ∀ i, i < ms.length → (i ∈ H ↔ 0 < rd ms (i : Int))) (hlt : ∀ i, i ∈ H → i < ms.length) (hso : H.Pairwise (fun (i j : Nat) => rd ms (i : Int) < rd ms (j : Int))) (hlen : H.length ≤ 1000000) :
    ∃ k, patchbayref12_Order.f k ms = some (ints H, true) := by
  have h : ∀ (d i : Nat), i ≤ ms.length → ms.length - i = d → ∃ k, patchbayref12_Order.l0 k ms (ints (H.filter fun q => decide (q < i))) (i : Int) = some (ints H, true) := by
    intro d
    induction d with
    | zero =>
      intro i hi hd
      have : i = ms.length := by omega
      subst this
      refine ⟨1, ?_⟩
      rw [patchbayref12_Order.l0, if_neg (by omega), List.filter_eq_self.2 (fun q hq => decide_eq_true (hlt q hq))]
    | succ d ih =>
      intro i hi hd
      have hi' : i < ms.length := by omega
      obtain ⟨k, hk⟩ := ih (i + 1) (by omega) (by omega)
      have hw : wrap64 ((i : Int) + 1) = ((i + 1 : Nat) : Int) := by unfold wrap64; omega
      have hfl : (H.filter fun q => decide (q < i)).length ≤ H.length := List.length_filter_le _ _
      by_cases c : 0 < rd ms (i : Int)
      · obtain ⟨H1, H2, hH⟩ := split_mem ((hin i hi').2 c)
        have hso2 := hso
        rw [hH, List.pairwise_append, List.pairwise_cons] at hso2
        obtain ⟨_, ⟨s2, _⟩, s3⟩ := hso2
        have n1 : ∀ q ∈ H1, rd ms (q : Int) < rd ms (i : Int) := fun q hq => s3 q hq i (by simp)
        have n2 : ∀ q ∈ H2, rd ms (i : Int) < rd ms (q : Int) := fun q hq => s2 q hq
        have ef : ∀ (l : List Nat), (∀ q ∈ l, q ≠ i) → l.filter (fun q => decide (q < i + 1)) = l.filter (fun q => decide (q < i)) := fun l hq => List.filter_congr (fun q hm => by have := hq q hm; exact decide_eq_decide.2 (by omega))
        have f1 : H.filter (fun q => decide (q < i)) = H1.filter (fun q => decide (q < i)) ++ H2.filter (fun q => decide (q < i)) := by
          rw [hH, List.filter_append, List.filter_cons_of_neg (by simp)]
        have f2 : H.filter (fun q => decide (q < i + 1)) = H1.filter (fun q => decide (q < i)) ++ i :: H2.filter (fun q => decide (q < i)) := by
          rw [hH, List.filter_append, List.filter_cons_of_pos (by simp), ef H1 (fun q hq e => by have := n1 q hq; rw [e] at this; omega), ef H2 (fun q hq e => by have := n2 q hq; rw [e] at this; omega)]
        have hH1 : ∀ q ∈ H1, q ∈ H := fun q hq => by rw [hH]; simp [hq]
        have hH2 : ∀ q ∈ H2, q ∈ H := fun q hq => by rw [hH]; simp [hq]
        rw [f2] at hk
        rw [f1] at hfl
        obtain ⟨k2, hk2⟩ := ord_in ms H hl (ints H, true) i hi' _ _ ⟨k, hk⟩ (fun q hq => ⟨hlt q (hH1 q (List.mem_filter.1 hq).1), n1 q (List.mem_filter.1 hq).1⟩) _ (H2.filter fun q => decide (q < i)) [] rfl (by simp) (fun q hq => ⟨hlt q (hH2 q (List.mem_filter.1 hq).1), n2 q (List.mem_filter.1 hq).1⟩) (by omega)
        refine ⟨k2 + 1, ?_⟩
        rw [patchbayref12_Order.l0, if_pos (by omega), if_pos (by omega), if_neg (by omega), f1, if_pos (by unfold ints; rw [List.length_map]; omega), Option.bind_some]
        rw [show ints (H1.filter (fun q => decide (q < i)) ++ H2.filter (fun q => decide (q < i))) ++ [(i : Int)] = ints (H1.filter (fun q => decide (q < i)) ++ H2.filter (fun q => decide (q < i)) ++ i :: []) by simp]
        rw [show wrap64 (((ints (H1.filter (fun q => decide (q < i)) ++ H2.filter (fun q => decide (q < i)) ++ i :: [])).length : Int) - 1) = (((H1.filter (fun q => decide (q < i)) ++ H2.filter (fun q => decide (q < i))).length : Nat) : Int) by
          unfold ints; rw [List.length_map, List.length_append (bs := i :: [])]; simp only [List.length_singleton, List.length_cons, List.length_nil]; unfold wrap64; omega]
        exact hk2
      · have hn : i ∉ H := fun hm => c ((hin i hi').1 hm)
        refine ⟨k + 1, ?_⟩
        rw [patchbayref12_Order.l0, if_pos (by omega), if_pos (by omega), if_pos (by omega), hw]
        rw [show H.filter (fun q => decide (q < i + 1)) = H.filter (fun q => decide (q < i)) from List.filter_congr (fun q hm => by
          have : q ≠ i := fun e => hn (e ▸ hm)
          exact decide_eq_decide.2 (by omega))] at hk
        exact hk
  obtain ⟨k, hk⟩ := h ms.length 0 (by omega) (by omega)
  refine ⟨k, ?_⟩
  have e0 : H.filter (fun q => decide (q < 0)) = [] := by
    rw [List.filter_eq_nil_iff]; intro q _; simp
  rw [e0] at hk
  exact hk

end Go.Proofs.Ytejplbeddcpmeaa.Ring
