/- Those who put into a lane's rings, and the one who takes, by turns; the law's own rows; no condition beyond bounds. -/
import Derived.Test.YtejplbeddcpmeaaLane11
import Derived.Test.YtejplbeddcpmeaaOpen
namespace Go.Proofs.Ytejplbeddcpmeaa.Ring
open Go.RowKit Go.Proofs.YtejplbeddcpmeaaW.PrintWords Go.Proofs.Ytejplbeddcpmeaa.Heap Go.Proofs.Ytejplbeddcpmeaa.Mem
set_option linter.unusedVariables false
set_option linter.unusedSimpArgs false
/-- A Push under way, c steps behind its begin. -/
def PP (s : LR) (A : ActS) (c v : Int) : Prop :=
  (A = ⟨true, 74, v, false, 0, false⟩ ∧ c = 0) ∨ (A = ⟨true, 81, v, false, 0, false⟩ ∧ s.len < s.size ∧ c = 1) ∨ (A = ⟨true, 84, v, false, 0, false⟩ ∧ s.laid = some v ∧ c = 2)
/-- A Pop under way. -/
def GP (s : LR) (A : ActS) (c : Int) : Prop :=
  (A = ⟨false, 75, 0, false, 0, false⟩ ∧ c = 0) ∨ (A = ⟨false, 82, 0, false, 0, false⟩ ∧ s.L ≠ [] ∧ c = 1) ∨ (∃ v L, A = ⟨false, 85, v, false, 0, false⟩ ∧ s.L = v :: L ∧ c = 2)
structure StepR (w : World) (p : Mp) (g x : Nat) (M : MemS) (s : LR) (w' : World) (M' : MemS) (s' : LR) (ib ob : Bool) (A' : ActS) : Prop where
  all : All w' p g x M' (s'.ring ib ob) A'
  inv : s'.Inv M'
  t : M'.time = M.time + 1
  sz : s'.size = s.size
  chg : Chg (Mra p g x) w w'
theorem GP.push {s s' : LR} {B : ActS} {d v : Int} (h : GP s B d) (e : s'.L = s.L ++ [v]) : GP s' B d := by
  rcases h with h | ⟨h1, h2, h3⟩ | ⟨u, L, h1, h2, h3⟩
  · exact .inl h
  · exact .inr (.inl ⟨h1, by rw [e]; simp, h3⟩)
  · exact .inr (.inr ⟨u, L ++ [v], h1, by rw [e, h2]; rfl, h3⟩)
theorem GP.same {s s' : LR} {B : ActS} {d : Int} (h : GP s B d) (e : s'.L = s.L) : GP s' B d := by
  rcases h with h | ⟨h1, h2, h3⟩ | ⟨u, L, h1, h2, h3⟩
  · exact .inl h
  · exact .inr (.inl ⟨h1, by rw [e]; exact h2, h3⟩)
  · exact .inr (.inr ⟨u, L, h1, by rw [e, h2], h3⟩)
theorem PP.keep {s s' : LR} {A : ActS} {c v : Int} (h : PP s A c v) (e : s'.len ≤ s.len) (z : s'.size = s.size) (l : s'.laid = s.laid) : PP s' A c v := by
  rcases h with h | ⟨h1, h2, h3⟩ | ⟨h1, h2, h3⟩
  · exact .inl h
  · exact .inr (.inl ⟨h1, by omega, h3⟩)
  · exact .inr (.inr ⟨h1, by rw [l]; exact h2, h3⟩)

end Go.Proofs.Ytejplbeddcpmeaa.Ring
namespace Go.Proofs.Ytejplbeddcpmeaa.Lane
open Go.RowKit Go.Proofs.YtejplbeddcpmeaaW.PrintWords Go.Proofs.Ytejplbeddcpmeaa.Heap Go.Proofs.Ytejplbeddcpmeaa.Mem Go.Proofs.Ytejplbeddcpmeaa.Ring
set_option linter.unusedVariables false
set_option linter.unusedSimpArgs false
theorem own_fr {B : Nat} {w w' : World} {v : Value} {n : Nat} {xs : List Value} (h : w.ownsRow B 29 1 v n xs) (hf : ∀ k cs, Blk w k cs 29 → B ≤ k → v.ownBlock = some k → Blk w' k cs 29) : w'.ownsRow B 29 1 v n xs := by
  refine ⟨h.1, ?_⟩
  rcases h.2 with q | ⟨g, cap, cur, e, hb, hg, h1, h2, h3, h4⟩
  · exact .inl q
  · refine .inr ⟨g, cap, cur, e, hb, ?_, h1, h2, h3, h4⟩
    have hB : Blk w g cur.toList 29 := by unfold Blk; simpa using hg
    have := hf g _ hB hb (by rw [e]; rfl)
    unfold Blk at this
    simpa using this
theorem own_some {w : World} {B g : Nat} {v : Value} {n : Nat} {xs : List Value} (h : w.ownsRow B 29 1 v n xs) (e : v.ownBlock = some g) : g < w.heap.size ∧ ∃ cs, Blk w g cs 29 := by
  obtain ⟨cs, hc⟩ := own_typed h g e
  exact ⟨blk_lt hc, cs.toList, by unfold Blk; simpa using hc⟩
theorem Blk.ty {w : World} {g t t' : Nat} {cs cs' : List Value} (h : Blk w g cs t) (h' : Blk w g cs' t') : t = t' := by
  rcases Nat.decEq t t' with q | q
  · exact absurd rfl (Blk.ne h h' q)
  · exact q
theorem made_get (z : Value) (n i : Nat) (h : i < n) : (madeCells #[z] n).toList[i]? = some z := by
  have hs : (madeCells #[z] n).size = n := by simp [size_madeCells]
  rw [List.getElem?_eq_getElem (by simp; omega)]
  simp [madeCells, Nat.mod_one]
theorem info_sl : (Try.prog.info? 44).map (fun i => (i.zero, i.size, i.bytes)) = some (some (.slice none 0 0), 1, 24) := by kernel_rfl
theorem LB.more {w0 w w' : World} {u n k T at_ : Nat} {Ls : Nat → List Int} (h : LB w0 w u n k T at_ Ls) (hb : Below w.heap.size w w') : LB w0 w' u n k T at_ Ls := by
  obtain ⟨p, b2, c2, x, gs, s, ⟨ss, M, hl, hL, hT⟩, h1, h2, h5, h6, h7, h8⟩ := h.ex
  have rowb : ∀ {b n : Nat} {gs : Nat → Nat}, Row w b n gs → Row w' b n gs := fun hr => by obtain ⟨cs, hc, hr⟩ := hr; exact ⟨cs, Blk.below hc hb, hr⟩
  refine ⟨⟨p, b2, c2, x, gs, s, ⟨ss, M, ⟨Blk.below hl.wd hb, rowb hl.row2, Blk.below hl.lane hb, rowb hl.row, ⟨MemAt.below hl.rings.m hb, fun i hi => RingAt.below (hl.rings.r i hi) hb, hl.rings.inv, hl.rings.ap, hl.rings.ne⟩, ?_, hl.at0, hl.n2⟩, hL, hT⟩, h1, h2, h5, h6, h7, h8⟩, below_step h.below hb⟩
  rcases hl.act with q | ⟨y, x', a, q, ha, ho⟩
  · exact .inl q
  · exact .inr ⟨y, x', a, q, Blk.below ha hb, ho⟩
theorem u64_mod (a : Int) (m : Nat) (hm : 1 ≤ m) : ∃ k : Nat, (IntKind.u64.wrap a).tmod (m : Int) = (k : Int) ∧ k < m := by
  have h := u64_in a
  rw [Int.tmod_eq_emod_of_nonneg h.1]
  have h1 := Int.emod_nonneg (IntKind.u64.wrap a) (show (m : Int) ≠ 0 by omega)
  have h2 := Int.emod_lt_of_pos (IntKind.u64.wrap a) (show (0 : Int) < (m : Int) by omega)
  exact ⟨(IntKind.u64.wrap a % (m : Int)).toNat, by omega, by omega⟩

/-- What a step of one ring leaves of the others. -/
structure StepA (s : LR) (M : MemS) (s' : LR) (M' : MemS) : Prop where
  ap : ∀ t : LR, Apart s t → t.Inv M → t.Inv M'
  b : s'.base = s.base
theorem push_stepA (w : World) (p : Mp) (g x : Nat) (M : MemS) (s : LR) (ob : Bool) (A : ActS) (c v : Int) (h : All w p g x M (s.ring true ob) A) (hI : s.Inv M) (ht : M.time < 4611686018427387900) (hp : PP s A c v) :
    Calls Try.prog 36 #[pt x] w fun e w' => ∃ M' s' A',
      (e = .returned (.bool false) ∧ StepR w p g x M s w' M' s' true ob A' ∧ StepA s M s' M' ∧ s'.L = s.L ∧ PP s' A' (c + 1) v) ∨
      (e = .returned (.bool true) ∧ StepR w p g x M s w' M' s' false ob A' ∧ StepA s M s' M' ∧ A'.over = true ∧ ((A'.ok = true ∧ s'.L = s.L ++ [v]) ∨ (A'.ok = false ∧ s'.L = s.L))) := by
  have h0 : ∀ t : LR, Apart s t → t.Inv M → t.Inv M := fun _ _ q => q
  rcases hp with ⟨rfl, rfl⟩ | ⟨rfl, hl, rfl⟩ | ⟨rfl, hl, rfl⟩
  · by_cases c : s.len < s.size
    · refine (lroom_free w p g x M s ob _ h hI ht rfl rfl rfl c).mono ?_
      rintro e w' ⟨rfl, ha, hc⟩
      exact ⟨_, s, _, .inl ⟨rfl, ⟨ha, Inv.load hI _, load_tick (has1 hI), rfl, hc⟩, ⟨apart_load h0 _, rfl⟩, rfl, .inr (.inl ⟨rfl, c, rfl⟩)⟩⟩
    · refine (lroom_full w p g x M s ob _ h hI ht rfl rfl rfl (by have := hI.len; omega)).mono ?_
      rintro e w' ⟨rfl, ha, hc⟩
      exact ⟨_, s, _, .inr ⟨rfl, ⟨ha, Inv.load hI _, load_tick (has1 hI), rfl, hc⟩, ⟨apart_load h0 _, rfl⟩, rfl, .inr ⟨rfl, rfl⟩⟩⟩
  · refine (llay w p g x M s ob _ h hI ht rfl rfl rfl).mono ?_
    rintro e w' ⟨rfl, ha, hc⟩
    exact ⟨_, { s with laid := some v }, _, .inl ⟨rfl, ⟨ha, Inv.lay hI hl v, store_tick (slot_has hI _) _, rfl, hc⟩, ⟨apart_store hI rfl rfl h0 (inS hI _) _, rfl⟩, rfl, .inr (.inr ⟨rfl, rfl, rfl⟩)⟩⟩
  · refine (ltell w p g x M s ob _ h hI ht rfl rfl rfl v).mono ?_
    rintro e w' ⟨rfl, ha, hc⟩
    exact ⟨_, { s with laid := none, L := s.L ++ [v] }, _, .inr ⟨rfl, ⟨ha, Inv.tell hI hl, store_tick (has0 hI) _, rfl, hc⟩, ⟨apart_store hI rfl rfl h0 (in0 hI) _, rfl⟩, rfl, .inl ⟨rfl, rfl⟩⟩⟩
theorem pop_caseA (w : World) (p : Mp) (g x : Nat) (M : MemS) (s : LR) (ib : Bool) (A : ActS) (c : Int) (h : All w p g x M (s.ring ib true) A) (hI : s.Inv M) (ht : M.time < 4611686018427387900) (hp : GP s A c) :
    (Calls Try.prog 36 #[pt x] w fun e w' => e = .returned (.bool false) ∧ ∃ M' s' A', StepA s M s' M' ∧ s'.laid = s.laid ∧ StepR w p g x M s w' M' s' ib true A' ∧ s'.L = s.L ∧ GP s' A' (c + 1)) ∨
    (c = 0 ∧ Calls Try.prog 36 #[pt x] w fun e w' => e = .returned (.bool true) ∧ ∃ M' s' A', StepA s M s' M' ∧ s'.laid = s.laid ∧ StepR w p g x M s w' M' s' ib false A' ∧ s'.L = s.L ∧ A'.over = true ∧ A'.ok = false ∧ 1 ≤ A'.mark) ∨
    (Calls Try.prog 36 #[pt x] w fun e w' => e = .returned (.bool true) ∧ ∃ M' s' A', StepA s M s' M' ∧ s'.laid = s.laid ∧ StepR w p g x M s w' M' s' ib false A' ∧ s.L = A'.value :: s'.L ∧ A'.over = true ∧ A'.ok = true ∧ 1 ≤ A'.mark) := by
  have h0 : ∀ t : LR, Apart s t → t.Inv M → t.Inv M := fun _ _ q => q
  have ht0 := h.m.t0
  rcases hp with ⟨rfl, rfl⟩ | ⟨rfl, hl, rfl⟩ | ⟨v, L, rfl, hl, rfl⟩
  · by_cases c : s.L = []
    · refine .inr (.inl ⟨rfl, (lsome_none w p g x M s ib _ h hI ht rfl rfl rfl c).mono ?_⟩)
      rintro e w' ⟨rfl, ha, hc⟩
      exact ⟨rfl, _, s, _, ⟨apart_load h0 _, rfl⟩, rfl, ⟨ha, Inv.load hI _, load_tick (has0 hI), rfl, hc⟩, rfl, rfl, rfl, by show 1 ≤ M.time + 1; omega⟩
    · refine .inl ((lsome_one w p g x M s ib _ h hI ht rfl rfl rfl c).mono ?_)
      rintro e w' ⟨rfl, ha, hc⟩
      exact ⟨rfl, _, s, _, ⟨apart_load h0 _, rfl⟩, rfl, ⟨ha, Inv.load hI _, load_tick (has0 hI), rfl, hc⟩, rfl, .inr (.inl ⟨rfl, c, rfl⟩)⟩
  · obtain ⟨v, L, hv⟩ : ∃ v L, s.L = v :: L := by cases e : s.L with
      | nil => exact absurd e hl
      | cons v L => exact ⟨v, L, rfl⟩
    refine .inl ((lget w p g x M s ib _ h hI ht rfl rfl rfl v L hv).mono ?_)
    rintro e w' ⟨rfl, ha, hc⟩
    exact ⟨rfl, _, s, _, ⟨apart_load h0 _, rfl⟩, rfl, ⟨ha, Inv.load hI _, load_tick (hd_has hI), rfl, hc⟩, rfl, .inr (.inr ⟨v, L, rfl, hv, rfl⟩)⟩
  · refine .inr (.inr ((lleave w p g x M s ib _ h hI ht rfl rfl rfl v L hl).mono ?_))
    rintro e w' ⟨rfl, ha, hc⟩
    exact ⟨rfl, _, { s with a := (s.a + 1) % s.size, cnt := IntKind.u64.wrap (s.cnt + 1), L := L }, _, ⟨apart_store hI rfl rfl h0 (in1 hI) _, rfl⟩, rfl, ⟨ha, Inv.leave hI hl, store_tick (has1 hI) _, rfl, hc⟩, hl, rfl, rfl, by show 1 ≤ M.time + 1; omega⟩

/-- One who puts: his act, how many steps it made, what it puts. -/
structure NwS where
  px : Nat
  A : ActS
  c : Int
  v : Int
/-- The one who takes: the taking, the Pop, how many rings were looked at, how many steps the Pop made. -/
structure TkS where
  y : Nat
  px : Nat
  j : Nat
  A : ActS
  c : Int
def TkS.k (t : TkS) (s : LaneS) : Nat := (s.at_ + t.j) % s.n
def obOf (tk : Option TkS) (s : LaneS) (i : Nat) : Bool := match tk with
  | none => false
  | some t => i == t.k s
def TkOk (B0 : Nat) (w : World) (x : Nat) (gs : Nat → Nat) (ss : Nat → LR) (s : LaneS) : Option TkS → Prop
  | none => s.act = .pointer none ∨ ∃ y x' a, s.act = pt y ∧ LActAt w y x' a ∧ a.over = true
  | some t => s.act = pt t.y ∧ LActAt w t.y x ⟨t.px, t.j, 0, false⟩ ∧ ActAt w t.px (gs (t.k s)) t.A ∧ GP (ss (t.k s)) t.A t.c ∧ t.j < s.n ∧ (0 ≤ t.A.value ∧ t.A.value ≤ 18446744073709551615) ∧ B0 ≤ t.y ∧ B0 ≤ t.px
/-- All but the taking. -/
structure MC (B0 : Nat) (w : World) (u : Nat) (p : Mp) (b2 c2 x : Nat) (gs : Nat → Nat) (ss : Nat → LR) (s : LaneS) (M : MemS) (nw : Nat → Option NwS) (ob : Nat → Bool) : Prop where
  wd : WdAt w u p b2 s.n c2 x
  row2 : Row w b2 s.n gs
  lane : LaneAt w x s
  row : Row w s.b s.n gs
  m : MemAt 97 w p M
  r : ∀ i, i < s.n → RingAt w (gs i) p ((ss i).ring (nw i).isSome (ob i))
  inv : ∀ i, i < s.n → (ss i).Inv M
  ap : ∀ i j, i < s.n → j < s.n → i ≠ j → Apart (ss i) (ss j)
  ne : ∀ i j, i < s.n → j < s.n → i ≠ j → gs i ≠ gs j
  nw : ∀ i, i < s.n → ∀ t, nw i = some t → ActAt w t.px (gs i) t.A ∧ PP (ss i) t.A t.c t.v ∧ (0 ≤ t.A.value ∧ t.A.value ≤ 18446744073709551615) ∧ B0 ≤ t.px
  at0 : s.at_ < s.n
  n2 : s.n ≤ 1000
  lp : ∀ k, p.has k → B0 ≤ k
  lx : B0 ≤ x
  lg : ∀ i, i < s.n → B0 ≤ gs i
structure MW (B0 : Nat) (w : World) (u : Nat) (p : Mp) (b2 c2 x : Nat) (gs : Nat → Nat) (ss : Nat → LR) (s : LaneS) (M : MemS) (nw : Nat → Option NwS) (tk : Option TkS) : Prop where
  c : MC B0 w u p b2 c2 x gs ss s M nw (obOf tk s)
  tk : TkOk B0 w x gs ss s tk
/-- The blocks of the machine. -/
def MB (B0 : Nat) (p : Mp) (w : World) (k : Nat) : Prop := B0 ≤ k ∧ (p.has k ∨ ∃ cs t, Blk w k cs t ∧ (t = 103 ∨ t = 107 ∨ t = 111 ∨ t = 109))
theorem act_ne {w : World} {x x' g g' : Nat} {A A' : ActS} (h : ActAt w x g A) (h' : ActAt w x' g' A') (hne : g ≠ g' ∨ A.push ≠ A'.push) : x ≠ x' := by
  rintro rfl
  have e := h.symm.trans h'
  simp only [Option.some.injEq, Obj.cells.injEq, List.toArray_inj, actCells] at e
  have e0 := e.1
  rw [Array.mk.injEq] at e0
  simp only [List.cons.injEq, Value.pointer.injEq, Option.some.injEq, Addr.mk.injEq] at e0
  replace e := And.intro e0 True.intro
  have e1 := e.1.1.1
  have e2 := e.1.2.1.2.1
  rcases hne with q | q
  · exact q e1
  · cases hA : A.push <;> cases hB : A'.push <;> simp [endOff, hA, hB] at e2 q
theorem MW.tw {B0 : Nat} {w : World} {u : Nat} {p : Mp} {b2 c2 x : Nat} {gs : Nat → Nat} {ss : Nat → LR} {s : LaneS} {M : MemS} {nw : Nat → Option NwS} {t : TkS} (h : MW B0 w u p b2 c2 x gs ss s M nw (some t)) : t.k s < s.n := Nat.mod_lt _ (by have := h.c.at0; omega)
theorem PP.pv {s : LR} {A : ActS} {c v : Int} (h : PP s A c v) : A.over = false ∧ A.push = true ∧ A.value = v ∧ c ≤ 2 ∧ 0 ≤ c := by
  rcases h with ⟨rfl, rfl⟩ | ⟨rfl, _, rfl⟩ | ⟨rfl, _, rfl⟩ <;> exact ⟨rfl, rfl, rfl, by decide, by decide⟩
theorem GP.pv {s : LR} {A : ActS} {c : Int} (h : GP s A c) : A.over = false ∧ A.push = false ∧ c ≤ 2 ∧ 0 ≤ c := by
  rcases h with ⟨rfl, rfl⟩ | ⟨rfl, _, rfl⟩ | ⟨_, _, rfl, _, rfl⟩ <;> exact ⟨rfl, rfl, by decide, by decide⟩
def updN (nw : Nat → Option NwS) (k : Nat) (t : Option NwS) : Nat → Option NwS := fun j => if j = k then t else nw j
theorem updN_same (nw : Nat → Option NwS) (k : Nat) (t : Option NwS) : updN nw k t k = t := by unfold updN; rw [if_pos rfl]
theorem updN_far (nw : Nat → Option NwS) {k j : Nat} (t : Option NwS) (h : j ≠ k) : updN nw k t j = nw j := by unfold updN; rw [if_neg h]
theorem upd_id (ss : Nat → LR) (k : Nat) : upd ss k (ss k) = ss := by funext j; unfold upd; split <;> rename_i e; rw [e]; rfl
section
variable {B0 : Nat} {w : World} {u : Nat} {p : Mp} {b2 c2 x : Nat} {gs : Nat → Nat} {ss : Nat → LR} {s : LaneS} {M : MemS} {nw : Nat → Option NwS} {tk : Option TkS} {ob : Nat → Bool}
theorem TkOk.keep {w' : World} {S : Nat → Prop} (h : TkOk B0 w x gs ss s tk) (hc : Chg S w w') (hS : ∀ {k : Nat} {cs : List Value}, Blk w k cs 109 → ¬ S k) (hA : ∀ t, tk = some t → ∀ cs, Blk w t.px cs 107 → ¬ S t.px) : TkOk B0 w' x gs ss s tk := by
  cases tk with
  | none =>
    rcases h with q | ⟨y, x', a, q, ha, ho⟩
    · exact .inl q
    · exact .inr ⟨y, x', a, q, Blk.chg ha hc (hS ha), ho⟩
  | some t =>
    obtain ⟨h1, h2, h3, h4⟩ := h
    exact ⟨h1, Blk.chg h2 hc (hS h2), Blk.chg h3 hc (hA t rfl _ h3), h4⟩
theorem TkOk.lists {ss' : Nat → LR} (h : TkOk B0 w x gs ss s tk) (hg : ∀ t, tk = some t → GP (ss (t.k s)) t.A t.c → GP (ss' (t.k s)) t.A t.c) : TkOk B0 w x gs ss' s tk := by
  cases tk with
  | none => exact h
  | some t =>
    obtain ⟨h1, h2, h3, h4, h5⟩ := h
    exact ⟨h1, h2, h3, hg t rfl h4, h5⟩
/-- A frame: blocks that are no part of the machine may change. -/
theorem MC.keep (h : MC B0 w u p b2 c2 x gs ss s M nw ob) {w' : World} {S : Nat → Prop} (hc : Chg S w w') (hS : ∀ k, S k → ¬ p.has k ∧ ∀ cs t, Blk w k cs t → t ≠ 91 ∧ t ≠ 52 ∧ t ≠ 111 ∧ t ≠ 103 ∧ t ≠ 107) : MC B0 w' u p b2 c2 x gs ss s M nw ob := by
  have hb : ∀ {k t : Nat} {cs : List Value}, Blk w k cs t → (t = 91 ∨ t = 52 ∨ t = 111 ∨ t = 103 ∨ t = 107) → ¬ S k := fun hk ht hs => by
    have q := (hS _ hs).2 _ _ hk
    rcases ht with e | e | e | e | e <;> subst e
    · exact q.1 rfl
    · exact q.2.1 rfl
    · exact q.2.2.1 rfl
    · exact q.2.2.2.1 rfl
    · exact q.2.2.2.2 rfl
  have hrow : ∀ {b n : Nat}, Row w b n gs → Row w' b n gs := fun hr => by obtain ⟨cs, hk, hr⟩ := hr; exact ⟨cs, Blk.chg hk hc (hb hk (.inr (.inl rfl))), hr⟩
  exact ⟨Blk.chg h.wd hc (hb h.wd (.inl rfl)), hrow h.row2, Blk.chg h.lane hc (hb h.lane (by simp)), hrow h.row, h.m.chg hc (fun k hk q => (hS k q).1 hk), fun i hi => Blk.chg (h.r i hi) hc (hb (h.r i hi) (by simp)), h.inv, h.ap, h.ne, fun i hi t e => ⟨Blk.chg (h.nw i hi t e).1 hc (hb (h.nw i hi t e).1 (by simp)), (h.nw i hi t e).2⟩, h.at0, h.n2, h.lp, h.lx, h.lg⟩
theorem MW.keep (h : MW B0 w u p b2 c2 x gs ss s M nw tk) {w' : World} {S : Nat → Prop} (hc : Chg S w w') (hS : ∀ k, S k → ¬ p.has k ∧ ∀ cs t, Blk w k cs t → t ≠ 91 ∧ t ≠ 52 ∧ t ≠ 111 ∧ t ≠ 109 ∧ t ≠ 103 ∧ t ≠ 107) : MW B0 w' u p b2 c2 x gs ss s M nw tk :=
  ⟨h.c.keep hc (fun k hs => ⟨(hS k hs).1, fun cs t hb => by have q := (hS k hs).2 cs t hb; exact ⟨q.1, q.2.1, q.2.2.1, q.2.2.2.2.1, q.2.2.2.2.2⟩⟩), h.tk.keep hc (fun hk hs => ((hS _ hs).2 _ _ hk).2.2.2.1 rfl) (fun t e cs hk hs => ((hS _ hs).2 _ _ hk).2.2.2.2.2 rfl)⟩
theorem MW.drewN (h : MW B0 w u p b2 c2 x gs ss s M nw tk) (n : Nat) : MW B0 (w.drewN n) u p b2 c2 x gs ss s M nw tk := h.keep (S := fun _ => False) (Chg.drewN (Chg.refl _ _) n) (fun _ q => q.elim)
theorem MW.drew (h : MW B0 w u p b2 c2 x gs ss s M nw tk) : MW B0 w.drew u p b2 c2 x gs ss s M nw tk := h.keep (S := fun _ => False) (Chg.drew (Chg.refl _ _)) (fun _ q => q.elim)
theorem MW.below {w' : World} (h : MW B0 w u p b2 c2 x gs ss s M nw tk) (hb : Below w.heap.size w w') : MW B0 w' u p b2 c2 x gs ss s M nw tk := h.keep (S := fun _ => False) (Chg.of_below hb) (fun _ q => q.elim)
theorem MC.mra (h : MC B0 w u p b2 c2 x gs ss s M nw ob) {k : Nat} (hk : k < s.n) {px : Nat} {A : ActS} (hA : ActAt w px (gs k) A) (hp : B0 ≤ px) {j : Nat} (hj : Mra p (gs k) px j) : MB B0 p w j := by
  rcases hj with q | q | q
  · exact ⟨h.lp j q, .inl q⟩
  · exact ⟨q ▸ h.lg k hk, .inr ⟨_, _, q ▸ h.r k hk, .inl rfl⟩⟩
  · exact ⟨q ▸ hp, .inr ⟨_, _, q ▸ hA, .inr (.inl rfl)⟩⟩
theorem MC.b0 (h : MC B0 w u p b2 c2 x gs ss s M nw ob) : B0 ≤ w.heap.size := by have := h.lx; have := Blk.lt h.lane; omega
theorem MC.invs (h : MC B0 w u p b2 c2 x gs ss s M nw ob) {k : Nat} (hk : k < s.n) {s' : LR} {M' : MemS} (hI : s'.Inv M') (ha : StepA (ss k) M s' M') : ∀ j, j < s.n → (upd ss k s' j).Inv M' := by
  intro j hj
  by_cases e : j = k
  · subst e; rw [upd_same]; exact hI
  · rw [upd_far ss _ e]; exact ha.ap _ (h.ap _ _ hk hj (fun q => e q.symm)) (h.inv j hj)
/-- Two of the rings are others. -/
theorem MC.ring_ne (h : MC B0 w u p b2 c2 x gs ss s M nw ob) {k j : Nat} (hk : k < s.n) (hj : j < s.n) (hne : j ≠ k) {px : Nat} {A : ActS} (hA : ActAt w px (gs k) A) : ¬ Mra p (gs k) px (gs j) := by
  rintro (q | q | q)
  · exact ne_mem h.m (h.r j hj) (by decide) (by decide) (by decide) q
  · exact h.ne j k hj hk hne q
  · exact Blk.ne (h.r j hj) hA (by decide) q
theorem MC.other (h : MC B0 w u p b2 c2 x gs ss s M nw ob) {k : Nat} (hk : k < s.n) {px : Nat} {A : ActS} (hA : ActAt w px (gs k) A) {b t : Nat} {cs : List Value} (hb : Blk w b cs t) (h1 : t ≠ 97) (h2 : t ≠ 29) (h3 : t ≠ 3) (h4 : t ≠ 103) (h5 : t ≠ 107) : ¬ Mra p (gs k) px b := by
  rintro (q | q | q)
  · exact ne_mem h.m hb h1 h2 h3 q
  · exact Blk.ne hb (h.r k hk) h4 q
  · exact Blk.ne hb hA h5 q
theorem MC.act (h : MC B0 w u p b2 c2 x gs ss s M nw ob) {k : Nat} (hk : k < s.n) {px px' g : Nat} {A A' : ActS} (hA : ActAt w px (gs k) A) (hA' : ActAt w px' g A') (hne : g ≠ gs k ∨ A'.push ≠ A.push) : ¬ Mra p (gs k) px px' := by
  rintro (q | q | q)
  · exact ne_mem h.m hA' (by decide) (by decide) (by decide) q
  · exact Blk.ne hA' (h.r k hk) (by decide) q
  · exact act_ne hA' hA hne q
set_option maxHeartbeats 1000000 in
/-- Who puts goes on. -/
theorem MW.pstep (h : MW B0 w u p b2 c2 x gs ss s M nw tk) {k : Nat} (hk : k < s.n) {t : NwS} (ht : nw k = some t) (hT : M.time < 4611686018427387900) :
    Calls Try.prog 36 #[pt t.px] w fun e w' => ∃ (b : Bool) (M' : MemS) (s' : LR) (A' : ActS), e = .returned (.bool b) ∧ M'.time = M.time + 1 ∧ ActAt w' t.px (gs k) A' ∧ Chg (MB B0 p w) w w' ∧
      MW B0 w' u p b2 c2 x gs (upd ss k s') s M' (updN nw k (if b then none else some ⟨t.px, A', t.c + 1, t.v⟩)) tk ∧ (b = false → s'.L = (ss k).L) ∧ (b = true → ((A'.ok = true ∧ s'.L = (ss k).L ++ [t.v]) ∨ (A'.ok = false ∧ s'.L = (ss k).L))) := by
  obtain ⟨hA, hP, hv, hpx0⟩ := h.c.nw k hk t ht
  have hr := h.c.r k hk
  rw [ht] at hr
  have hall : All w p (gs k) t.px M ((ss k).ring true (obOf tk s k)) t.A := ⟨h.c.m, hr, hA, ring_ok (h.c.inv k hk) _ _, hv⟩
  have hpv := PP.pv hP
  have key : ∀ {w' : World} {M' : MemS} {s' : LR} {A' : ActS} {b : Bool}, StepR w p (gs k) t.px M (ss k) w' M' s' (!b) (obOf tk s k) A' → StepA (ss k) M s' M' → (s'.L = (ss k).L ∨ s'.L = (ss k).L ++ [t.v]) → (b = false → PP s' A' (t.c + 1) t.v) → MW B0 w' u p b2 c2 x gs (upd ss k s') s M' (updN nw k (if b then none else some ⟨t.px, A', t.c + 1, t.v⟩)) tk := by
    intro w' M' s' A' b hS ha hL hp
    have hc := hS.chg
    have hrow : ∀ {b n : Nat}, Row w b n gs → Row w' b n gs := fun hr => by obtain ⟨cs, hb, hr⟩ := hr; exact ⟨cs, Blk.chg hb hc (h.c.other hk hA hb (by decide) (by decide) (by decide) (by decide) (by decide)), hr⟩
    refine ⟨⟨Blk.chg h.c.wd hc (h.c.other hk hA h.c.wd (by decide) (by decide) (by decide) (by decide) (by decide)), hrow h.c.row2, Blk.chg h.c.lane hc (h.c.other hk hA h.c.lane (by decide) (by decide) (by decide) (by decide) (by decide)), hrow h.c.row, hS.all.m, fun i hi => ?_, h.c.invs hk hS.inv ha, upd_ap h.c.ap ha.b hS.sz, h.c.ne, fun i hi t' e => ?_, h.c.at0, h.c.n2, h.c.lp, h.c.lx, h.c.lg⟩, ?_⟩
    · by_cases e : i = k
      · subst e
        rw [upd_same, updN_same]
        have := hS.all.r
        cases b
        · exact this
        · exact this
      · rw [upd_far ss _ e, updN_far nw _ e]; exact Blk.chg (h.c.r i hi) hc (h.c.ring_ne hk hi e hA)
    · by_cases d : i = k
      · subst d
        rw [updN_same] at e
        cases b
        · simp only [Bool.false_eq_true, if_false, Option.some.injEq] at e
          subst e
          rw [upd_same]
          exact ⟨hS.all.a, hp rfl, hS.all.av, hpx0⟩
        · simp at e
      · rw [updN_far nw _ d] at e
        rw [upd_far ss _ d]
        obtain ⟨q1, q2⟩ := h.c.nw i hi t' e
        exact ⟨Blk.chg q1 hc (h.c.act hk hA q1 (.inl (h.c.ne i k hi hk d))), q2⟩
    · refine ((h.tk.keep hc (fun hb => h.c.other hk hA hb (by decide) (by decide) (by decide) (by decide) (by decide)) (fun t' e cs hb => ?_)).lists (fun t' e hg => ?_))
      · have htk := h.tk
        subst e
        obtain ⟨_, _, h3, h4, _⟩ := htk
        exact h.c.act hk hA h3 (.inr (by rw [hpv.2.1, (GP.pv h4).2.1]; decide))
      · by_cases d : t'.k s = k
        · rw [d] at hg ⊢
          rw [upd_same]
          rcases hL with q | q
          · exact hg.same q
          · exact hg.push q
        · rw [upd_far ss _ d]; exact hg
  refine (push_stepA w p (gs k) t.px M (ss k) _ t.A t.c t.v hall (h.c.inv k hk) hT hP).mono ?_
  rintro e w' ⟨M', s', A', ⟨rfl, hS, ha, hL, hp⟩ | ⟨rfl, hS, ha, ho, hL⟩⟩
  · exact ⟨false, M', s', A', rfl, hS.t, hS.all.a, hS.chg.mono (fun _ _ q => h.c.mra hk hA hpx0 q), key (b := false) hS ha (.inl hL) (fun _ => hp), fun _ => hL, fun e => by cases e⟩
  · exact ⟨true, M', s', A', rfl, hS.t, hS.all.a, hS.chg.mono (fun _ _ q => h.c.mra hk hA hpx0 q), key (b := true) hS ha (by rcases hL with q | q; exact .inr q.2; exact .inl q.2) (fun e => by cases e), (fun e => by cases e), fun _ => hL⟩
/-- A number is put. -/
theorem MW.push (h : MW B0 w u p b2 c2 x gs ss s M nw tk) {k : Nat} (hk : k < s.n) (ht : nw k = none) (v : Int) (hv : 0 ≤ v ∧ v ≤ 18446744073709551615) :
    Calls Try.prog 33 #[pt (gs k), .int .u64 v] w fun e w' => ∃ (px : Nat) (A : ActS), e = .returned (pt px) ∧ Chg (MB B0 p w) w w' ∧ MW B0 w' u p b2 c2 x gs ss s M (updN nw k (some ⟨px, A, 0, v⟩)) tk := by
  have hr := h.c.r k hk
  rw [ht] at hr
  refine (push_new w (gs k) p M _ h.c.m hr (ring_ok (h.c.inv k hk) _ _) rfl v hv).mono ?_
  rintro e w' ⟨px, rfl, ha, hc, hpx⟩
  have hno : ∀ {b t : Nat} {cs : List Value}, Blk w b cs t → t ≠ 103 → b ≠ gs k := fun hb h1 => Blk.ne hb hr h1
  have hrow : ∀ {b n : Nat}, Row w b n gs → Row w' b n gs := fun hr => by obtain ⟨cs, hb, hr⟩ := hr; exact ⟨cs, Blk.chg hb hc (hno hb (by decide)), hr⟩
  refine ⟨px, ⟨true, 74, v, false, 0, false⟩, rfl, hc.mono (fun _ _ q => ⟨q ▸ h.c.lg k hk, .inr ⟨_, _, q ▸ hr, .inl rfl⟩⟩), ⟨Blk.chg h.c.wd hc (hno h.c.wd (by decide)), hrow h.c.row2, Blk.chg h.c.lane hc (hno h.c.lane (by decide)), hrow h.c.row, ha.m, fun i hi => ?_, h.c.inv, h.c.ap, h.c.ne, fun i hi t' e => ?_, h.c.at0, h.c.n2, h.c.lp, h.c.lx, h.c.lg⟩, h.tk.keep hc (fun hb => hno hb (by decide)) (fun t' e cs hb => hno hb (by decide))⟩
  · by_cases e : i = k
    · subst e; rw [updN_same]; exact ha.r
    · rw [updN_far nw _ e]; exact Blk.chg (h.c.r i hi) hc (h.c.ne i k hi hk e)
  · by_cases d : i = k
    · subst d
      rw [updN_same] at e
      cases e
      exact ⟨ha.a, .inl ⟨rfl, rfl⟩, ha.av, Nat.le_trans h.c.b0 hpx⟩
    · rw [updN_far nw _ d] at e
      obtain ⟨q1, q2⟩ := h.c.nw i hi t' e
      exact ⟨Blk.chg q1 hc (hno q1 (by decide)), q2⟩
end

/-- Next while a taking is under way. -/
theorem next_busy (w : World) (x y : Nat) (s : LaneS) (hs : LaneAt w x s) (ha : s.act = pt y) (hov : Calls Try.prog 62 #[pt y] w fun e w' => e = .returned (.bool false) ∧ w = w') :
    Calls Try.prog 60 #[pt x] w fun e w' => e = .returned (.pointer none) ∧ w = w' := by
  have HOV := Aside0.mk hov
  have l2 : w.cell? ⟨x, 2, none⟩ = some (pt y) := (Blk.cell hs 2).trans (by rw [← ha]; rfl)
  clear hs hov ha
  go_enter Try.func60, Try.ntmps60
  go_wp2_with (go_at_call 62; (with_reducible refine HOV.out.mono ?_); rintro e w' ⟨rfl, rfl⟩)
  go_ret
  exact ⟨rfl, rfl⟩
def updB (ob : Nat → Bool) (k : Nat) (b : Bool) : Nat → Bool := fun j => if j = k then b else ob j
theorem MC.ob {B0 : Nat} {w : World} {u : Nat} {p : Mp} {b2 c2 x : Nat} {gs : Nat → Nat} {ss : Nat → LR} {s : LaneS} {M : MemS} {nw : Nat → Option NwS} {ob ob' : Nat → Bool} (h : MC B0 w u p b2 c2 x gs ss s M nw ob) (e : ∀ i, i < s.n → ob' i = ob i) : MC B0 w u p b2 c2 x gs ss s M nw ob' :=
  { h with r := fun i hi => by rw [e i hi]; exact h.r i hi }
section
variable {B0 : Nat} {w : World} {u : Nat} {p : Mp} {b2 c2 x : Nat} {gs : Nat → Nat} {ss : Nat → LR} {s : LaneS} {M : MemS} {nw : Nat → Option NwS} {tk : Option TkS} {ob : Nat → Bool}
/-- A Pop's step. -/
theorem MC.pop (h : MC B0 w u p b2 c2 x gs ss s M nw ob) {k px : Nat} (hk : k < s.n) {A : ActS} {c : Int} (hA : ActAt w px (gs k) A) (hG : GP (ss k) A c) {w' : World} {M' : MemS} {s' : LR} {A' : ActS} {b : Bool} (hS : StepR w p (gs k) px M (ss k) w' M' s' (nw k).isSome b A') (ha : StepA (ss k) M s' M') (hl : s'.laid = (ss k).laid) (hL : s'.L.length ≤ (ss k).L.length) :
    MC B0 w' u p b2 c2 x gs (upd ss k s') s M' nw (updB ob k b) := by
  have hc := hS.chg
  have hrow : ∀ {b n : Nat}, Row w b n gs → Row w' b n gs := fun hr => by obtain ⟨cs, hb, hr⟩ := hr; exact ⟨cs, Blk.chg hb hc (h.other hk hA hb (by decide) (by decide) (by decide) (by decide) (by decide)), hr⟩
  refine ⟨Blk.chg h.wd hc (h.other hk hA h.wd (by decide) (by decide) (by decide) (by decide) (by decide)), hrow h.row2, Blk.chg h.lane hc (h.other hk hA h.lane (by decide) (by decide) (by decide) (by decide) (by decide)), hrow h.row, hS.all.m, fun i hi => ?_, h.invs hk hS.inv ha, upd_ap h.ap ha.b hS.sz, h.ne, fun i hi t' e => ?_, h.at0, h.n2, h.lp, h.lx, h.lg⟩
  · unfold updB
    by_cases e : i = k
    · subst e
      rw [upd_same, if_pos rfl]
      exact hS.all.r
    · rw [upd_far ss _ e, if_neg e]; exact Blk.chg (h.r i hi) hc (h.ring_ne hk hi e hA)
  · obtain ⟨q1, q2, q3⟩ := h.nw i hi t' e
    by_cases d : i = k
    · subst d
      rw [upd_same]
      exact ⟨Blk.chg q1 hc (h.act hk hA q1 (.inr (by rw [(PP.pv q2).2.1, (GP.pv hG).2.1]; decide))), q2.keep (by unfold LR.len; omega) hS.sz hl, q3⟩
    · rw [upd_far ss _ d]
      exact ⟨Blk.chg q1 hc (h.act hk hA q1 (.inl (h.ne i k hi hk d))), q2, q3⟩
/-- The lane's own blocks change: the taking, the lane, a ring whose Pop begins. -/
theorem MC.re (h : MC B0 w u p b2 c2 x gs ss s M nw ob) {w' : World} {S : Nat → Prop} {k : Nat} {s2 : LaneS} (hc : Chg S w w') (hS : ∀ j, S j → j = x ∨ j = gs k ∨ ∃ cs, Blk w j cs 109) (hk : k < s.n) {b : Bool} (hl : LaneAt w' x s2) (h1 : s2.n = s.n) (h2 : s2.b = s.b) (h3 : s2.at_ < s.n) (hr : RingAt w' (gs k) p ((ss k).ring (nw k).isSome b)) :
    MC B0 w' u p b2 c2 x gs ss s2 M nw (updB ob k b) := by
  have hno : ∀ {j t : Nat} {cs : List Value}, Blk w j cs t → t ≠ 111 → t ≠ 103 → t ≠ 109 → ¬ S j := fun hb n1 n2 n3 hs => by
    rcases hS _ hs with q | q | ⟨cs, q⟩
    · exact Blk.ne hb h.lane n1 q
    · exact Blk.ne hb (h.r k hk) n2 q
    · exact Blk.ne hb q n3 rfl
  have hrow : ∀ {b n : Nat}, Row w b n gs → Row w' b n gs := fun hr => by obtain ⟨cs, hb, hr⟩ := hr; exact ⟨cs, Blk.chg hb hc (hno hb (by decide) (by decide) (by decide)), hr⟩
  refine ⟨by rw [h1]; exact Blk.chg h.wd hc (hno h.wd (by decide) (by decide) (by decide)), by rw [h1]; exact hrow h.row2, hl, by rw [h1, h2]; exact hrow h.row, h.m.chg hc (fun j hj hs => ?_), fun i hi => ?_, by rw [h1]; exact h.inv, by rw [h1]; exact h.ap, by rw [h1]; exact h.ne, fun i hi t e => ?_, by omega, by rw [h1]; exact h.n2, h.lp, h.lx, by rw [h1]; exact h.lg⟩
  · rcases hS _ hs with q | q | ⟨cs, q⟩
    · exact ne_mem h.m h.lane (by decide) (by decide) (by decide) (q ▸ hj)
    · exact ne_mem h.m (h.r k hk) (by decide) (by decide) (by decide) (q ▸ hj)
    · exact ne_mem h.m q (by decide) (by decide) (by decide) hj
  · rw [h1] at hi
    unfold updB
    by_cases e : i = k
    · subst e; rw [if_pos rfl]; exact hr
    · rw [if_neg e]
      refine Blk.chg (h.r i hi) hc (fun hs => ?_)
      rcases hS _ hs with q | q | ⟨cs, q⟩
      · exact Blk.ne (h.r i hi) h.lane (by decide) q
      · exact h.ne i k hi hk e q
      · exact Blk.ne (h.r i hi) q (by decide) rfl
  · rw [h1] at hi
    obtain ⟨q1, q2⟩ := h.nw i hi t e
    exact ⟨Blk.chg q1 hc (hno q1 (by decide) (by decide) (by decide)), q2⟩
theorem ob_none (s : LaneS) (k : Nat) (b : Bool) (i : Nat) : obOf none s i = false := rfl
/-- A taking begins. -/
theorem MW.next (h : MW B0 w u p b2 c2 x gs ss s M nw none) :
    Calls Try.prog 60 #[pt x] w fun e w' => ∃ t : TkS, e = .returned (pt t.y) ∧ t.j = 0 ∧ t.c = 0 ∧ Chg (MB B0 p w) w w' ∧ MW B0 w' u p b2 c2 x gs ss { s with act := pt t.y } M nw (some t) := by
  have hkn : (s.at_ + 0) % s.n < s.n := Nat.mod_lt _ (by have := h.c.at0; omega)
  have hov : Calls Try.prog 62 #[s.act] w fun e w' => e = .returned (.bool true) ∧ w = w' := by
    rcases h.tk with q | ⟨y, x', a, q, ha, ho⟩
    · rw [q]; exact over_nil w
    · rw [q]
      have := over_ w y x' a ha
      rw [ho] at this
      exact this
  refine (next_ w x p gs s ((s.at_ + 0) % s.n) rfl M ((ss ((s.at_ + 0) % s.n)).ring (nw ((s.at_ + 0) % s.n)).isSome false) h.c.lane hov h.c.row h.c.m (h.c.r _ hkn) (ring_ok (h.c.inv _ hkn) _ _) rfl h.c.at0 h.c.n2).mono fun e w' ⟨y, px, he, hact, hlane, hall, hc, hy, hpx⟩ => ⟨⟨y, px, 0, newAct, 0⟩, he, rfl, rfl, hc.mono (fun j _ q => ?_), ⟨(h.c.re hc (fun j q => by rcases q with q | q; exact .inl q; exact .inr (.inl q)) hkn hlane rfl rfl h.c.at0 hall.r).ob (fun i hi => ?_), rfl, hact, hall.a, .inl ⟨rfl, rfl⟩, by have := h.c.at0; show 0 < s.n; omega, ⟨(by decide : (0 : Int) ≤ 0), (by decide : (0 : Int) ≤ 18446744073709551615)⟩, Nat.le_trans h.c.b0 hy, Nat.le_trans h.c.b0 hpx⟩⟩
  · rcases q with q | q
    · exact ⟨q ▸ h.c.lx, .inr ⟨_, _, q ▸ h.c.lane, by simp⟩⟩
    · exact ⟨q ▸ h.c.lg _ hkn, .inr ⟨_, _, q ▸ h.c.r _ hkn, by simp⟩⟩
  · unfold updB obOf TkS.k
    by_cases e : i = (s.at_ + 0) % s.n
    · rw [if_pos e, e]; simp
    · rw [if_neg e]; simpa using e
theorem MW.over {t : TkS} (h : MW B0 w u p b2 c2 x gs ss s M nw (some t)) : Calls Try.prog 62 #[pt t.y] w fun e w' => e = .returned (.bool false) ∧ w = w' := over_ w t.y x _ h.tk.2.1
theorem MW.busy {t : TkS} (h : MW B0 w u p b2 c2 x gs ss s M nw (some t)) : Calls Try.prog 60 #[pt x] w fun e w' => e = .returned (.pointer none) ∧ w = w' := next_busy w x t.y s h.c.lane h.tk.1 h.over
/-- What the taking's step did. -/
inductive LStep (B0 : Nat) (w : World) (u : Nat) (p : Mp) (b2 c2 x : Nat) (gs : Nat → Nat) (ss : Nat → LR) (s : LaneS) (M : MemS) (nw : Nat → Option NwS) (t : TkS) (w' : World) : Bool → Prop
  | goes (t' : TkS) (ss' : Nat → LR) (M' : MemS) : t'.y = t.y → (t'.j : Int) + t'.c = t.j + t.c + 1 → (∀ i, (ss' i).L = (ss i).L) → M'.time = M.time + 1 → MW B0 w' u p b2 c2 x gs ss' s M' nw (some t') → LStep B0 w u p b2 c2 x gs ss s M nw t w' false
  | none_ (ss' : Nat → LR) (M' : MemS) : (∀ i, (ss' i).L = (ss i).L) → M'.time = M.time + 1 → ActSt w' t.y false 0 0 → MW B0 w' u p b2 c2 x gs ss' s M' nw none → LStep B0 w u p b2 c2 x gs ss s M nw t w' true
  | one (k : Nat) (v : Int) (ss' : Nat → LR) (s' : LaneS) (M' : MemS) : k < s.n → s'.n = s.n → (ss k).L = v :: (ss' k).L → (∀ i, i ≠ k → (ss' i).L = (ss i).L) → M'.time = M.time + 1 → ActSt w' t.y true v (k : Nat) → MW B0 w' u p b2 c2 x gs ss' s' M' nw none → LStep B0 w u p b2 c2 x gs ss s M nw t w' true
theorem upd_L (ss : Nat → LR) (k : Nat) (s' : LR) (e : s'.L = (ss k).L) (i : Nat) : (upd ss k s' i).L = (ss i).L := by
  by_cases d : i = k
  · subst d; rw [upd_same]; exact e
  · rw [upd_far ss _ d]
theorem mod_ne1 {a j n : Nat} (h0 : a < n) (hn : j + 1 < n) : (a + (j + 1)) % n ≠ (a + j) % n := by
  intro q
  by_cases c : a + j + 1 < n
  · rw [Nat.mod_eq_of_lt (by omega), Nat.mod_eq_of_lt (by omega)] at q; omega
  · by_cases d : a + j < n
    · have e1 : a + (j + 1) = n := by omega
      rw [e1, Nat.mod_self, Nat.mod_eq_of_lt d] at q; omega
    · rw [Nat.mod_eq_sub_mod (by omega), Nat.mod_eq_sub_mod (a := a + j) (by omega), Nat.mod_eq_of_lt (by omega), Nat.mod_eq_of_lt (by omega)] at q; omega
theorem obk (s : LaneS) (t : TkS) (i : Nat) (b : Bool) (hb : b = true) : updB (obOf (some t) s) (t.k s) b i = obOf (some t) s i := by
  subst hb
  unfold updB obOf
  by_cases e : i = t.k s
  · rw [if_pos e, e]; simp
  · rw [if_neg e]
theorem obn (s s2 : LaneS) (t : TkS) (i : Nat) : updB (obOf (some t) s) (t.k s) false i = obOf none s2 i := by
  unfold updB obOf
  by_cases e : i = t.k s
  · rw [if_pos e]
  · rw [if_neg e]; simpa using e
theorem obx (s : LaneS) (t t' : TkS) (i : Nat) : updB (updB (obOf (some t) s) (t.k s) false) (t'.k s) true i = obOf (some t') s i := by
  rw [show updB (updB (obOf (some t) s) (t.k s) false) (t'.k s) true i = if i = t'.k s then true else updB (obOf (some t) s) (t.k s) false i from rfl, obn s s t i]
  unfold obOf
  by_cases e : i = t'.k s
  · rw [if_pos e, e]; simp
  · rw [if_neg e]; symm; simpa using e
set_option maxHeartbeats 2000000 in
/-- The taking goes on. -/
theorem MW.lstep {t : TkS} (h : MW B0 w u p b2 c2 x gs ss s M nw (some t)) (hT : M.time < 4611686018427387900) :
    Calls Try.prog 61 #[pt t.y] w fun e w' => ∃ b : Bool, e = .returned (.bool b) ∧ Chg (MB B0 p w) w w' ∧ LStep B0 w u p b2 c2 x gs ss s M nw t w' b := by
  have hkn := h.tw
  obtain ⟨hsa, hact, hA, hG, hj, hv, hy0, hp0⟩ := h.tk
  have hr := h.c.r _ hkn
  rw [show obOf (some t) s (t.k s) = true by simp [obOf]] at hr
  have hall : All w p (gs (t.k s)) t.px M ((ss (t.k s)).ring (nw (t.k s)).isSome true) t.A := ⟨h.c.m, hr, hA, ring_ok (h.c.inv _ hkn) _ _, hv⟩
  have hat0 := h.c.at0
  have hmb : ∀ {w' : World}, Chg (Mra p (gs (t.k s)) t.px) w w' → Chg (MB B0 p w) w w' := fun hc => hc.mono (fun _ _ q => h.c.mra hkn hA hp0 q)
  have hpv := GP.pv hG
  have keepA : ∀ {w' : World}, Chg (Mra p (gs (t.k s)) t.px) w w' → LActAt w' t.y x ⟨t.px, t.j, 0, false⟩ := fun hc => Blk.chg hact hc (h.c.other hkn hA hact (by decide) (by decide) (by decide) (by decide) (by decide))
  have mbx : ∀ {w1 w2 : World} {S : Nat → Prop}, Chg (MB B0 p w) w w1 → Chg S w1 w2 → (∀ j, j < w.heap.size → S j → MB B0 p w j) → Chg (MB B0 p w) w w2 := fun h1 h2 hs => Chg.step h1 h2 hs
  have my : MB B0 p w t.y := ⟨hy0, .inr ⟨_, _, hact, by simp⟩⟩
  have mx : MB B0 p w x := ⟨h.c.lx, .inr ⟨_, _, h.c.lane, by simp⟩⟩
  have mg : ∀ i, i < s.n → MB B0 p w (gs i) := fun i hi => ⟨h.c.lg i hi, .inr ⟨_, _, h.c.r i hi, by simp⟩⟩
  rcases pop_caseA w p (gs (t.k s)) t.px M _ _ t.A t.c hall (h.c.inv _ hkn) hT hG with hC | ⟨hc0, hC⟩ | hC
  · refine (step_false w t.y x ⟨t.px, t.j, 0, false⟩ _ hact rfl hC (fun w' ⟨M', s', A', ha, hl, hS, hL, hg⟩ => keepA hS.chg)).mono fun e w' ⟨he, M', s', A', ha, hl, hS, hL, hg⟩ => ⟨false, he, hmb hS.chg, .goes ⟨t.y, t.px, t.j, A', t.c + 1⟩ (upd ss (t.k s) s') M' rfl (by show (t.j : Int) + (t.c + 1) = _; omega) (upd_L ss _ s' hL) hS.t ⟨(h.c.pop hkn hA hG hS ha hl (by rw [hL]; exact Nat.le_refl _)).ob (fun i hi => (obk s t i true rfl).symm), hsa, keepA hS.chg, hS.all.a, by show GP (upd ss (t.k s) s' (t.k s)) A' (t.c + 1); rw [upd_same]; exact hg, hj, hS.all.av, hy0, hp0⟩⟩
  · have hpop : ∀ {w' : World} {M' : MemS} {s' : LR} {A' : ActS}, StepA (ss (t.k s)) M s' M' → s'.laid = (ss (t.k s)).laid → StepR w p (gs (t.k s)) t.px M (ss (t.k s)) w' M' s' (nw (t.k s)).isSome false A' → s'.L = (ss (t.k s)).L → MC B0 w' u p b2 c2 x gs (upd ss (t.k s) s') s M' nw (obOf none s) := fun ha hl hS hL => (h.c.pop hkn hA hG hS ha hl (by rw [hL]; exact Nat.le_refl _)).ob (fun i hi => (obn s s t i).symm)
    by_cases hlast : t.j + 1 = s.n
    · refine (step_none w t.y x (gs (t.k s)) ⟨t.px, t.j, 0, false⟩ s _ hact rfl hC (fun w' ⟨M', s', A', ha, hl, hS, hL, ho, hk, hm⟩ => ⟨keepA hS.chg, (hpop ha hl hS hL).lane, A', hS.all.a, hk⟩) hlast h.c.n2).mono fun e w'' ⟨he, w', ⟨M', s', A', ha, hl, hS, hL, ho, hk, hm⟩, hact2, hc2⟩ => ?_
      have hp := hpop ha hl hS hL
      have hyb := keepA hS.chg
      have hmw : MC B0 w'' u p b2 c2 x gs (upd ss (t.k s) s') s M' nw (obOf none s) := hp.keep hc2 (fun k hk => by
        subst hk
        exact ⟨ne_mem hp.m hyb (by decide) (by decide) (by decide), fun cs t' hb => by
          have e := Blk.ty hb hyb
          subst e
          exact ⟨by decide, by decide, by decide, by decide, by decide⟩⟩)
      have hA2 : ActAt w'' t.px (gs (t.k s)) A' := Blk.chg hS.all.a hc2 (Blk.ne hS.all.a hyb (by decide))
      exact ⟨true, he, mbx (hmb hS.chg) hc2 (fun j _ q => q ▸ my), .none_ _ M' (upd_L ss _ s' hL) hS.t ⟨x, _, _, A', hact2, rfl, hA2, hk, (fun q => by cases q), hm⟩ ⟨hmw, .inr ⟨t.y, x, _, hsa, hact2, rfl⟩⟩⟩
    · have hk2 : (s.at_ + (t.j + 1)) % s.n < s.n := Nat.mod_lt _ (by omega)
      have hkne : (s.at_ + (t.j + 1)) % s.n ≠ t.k s := mod_ne1 hat0 (by omega)
      refine (step_next w t.y x p gs (gs (t.k s)) ⟨t.px, t.j, 0, false⟩ s _ (fun w' M' R => ∃ s' A', StepA (ss (t.k s)) M s' M' ∧ s'.laid = (ss (t.k s)).laid ∧ StepR w p (gs (t.k s)) t.px M (ss (t.k s)) w' M' s' (nw (t.k s)).isSome false A' ∧ s'.L = (ss (t.k s)).L ∧ R = (upd ss (t.k s) s' ((s.at_ + (t.j + 1)) % s.n)).ring (nw ((s.at_ + (t.j + 1)) % s.n)).isSome false) ((s.at_ + (t.j + 1)) % s.n) rfl hact rfl hC (fun w' ⟨M', s', A', ha, hl, hS, hL, ho, hk, hm⟩ => ?_) hat0 (by show t.j + 1 < s.n; omega) h.c.n2).mono fun e w'' ⟨he, w', M', R, px, _, ⟨s', A', ha, hl, hS, hL, hR⟩, hm, hrg, hact2, hall2, hc2, hpx⟩ => ?_
      · have hp := hpop ha hl hS hL
        exact ⟨keepA hS.chg, hp.lane, ⟨A', hS.all.a, hk⟩, hp.row, M', _, ⟨s', A', ha, hl, hS, hL, rfl⟩, hp.m, hp.r _ hk2, ring_ok (hp.inv _ hk2) _ _, rfl⟩
      · subst hR
        have hp := hpop ha hl hS hL
        have hyb := keepA hS.chg
        have hmw := (hp.re (s2 := s) (b := true) hc2 (fun j q => by rcases q with q | q; exact .inr (.inr ⟨_, q ▸ hyb⟩); exact .inr (.inl q)) hk2 (Blk.chg hp.lane hc2 (by rintro (q | q); exact Blk.ne hp.lane hyb (by decide) q; exact Blk.ne hp.lane (hp.r _ hk2) (by decide) q)) rfl rfl hat0 hall2.r).ob (ob' := obOf (some ⟨t.y, px, t.j + 1, newAct, 0⟩) s) (fun i hi => by
          unfold updB obOf TkS.k
          by_cases e : i = (s.at_ + (t.j + 1)) % s.n
          · rw [if_pos e, e]; simp
          · rw [if_neg e]; simpa using e)
        exact ⟨false, he, mbx (hmb hS.chg) hc2 (fun j hj q => by rcases q with q | q; exact q ▸ my; exact q ▸ mg _ hk2), .goes ⟨t.y, px, t.j + 1, newAct, 0⟩ _ M' rfl (by show ((t.j + 1 : Nat) : Int) + 0 = _; omega) (upd_L ss _ s' hL) hS.t ⟨hmw, hsa, hact2, hall2.a, .inl ⟨rfl, rfl⟩, by show t.j + 1 < s.n; omega, ⟨(by decide : (0 : Int) ≤ 0), (by decide : (0 : Int) ≤ 18446744073709551615)⟩, hy0, Nat.le_trans hp.b0 hpx⟩⟩
  · have hpop : ∀ {w' : World} {M' : MemS} {s' : LR} {A' : ActS}, StepA (ss (t.k s)) M s' M' → s'.laid = (ss (t.k s)).laid → StepR w p (gs (t.k s)) t.px M (ss (t.k s)) w' M' s' (nw (t.k s)).isSome false A' → (ss (t.k s)).L = A'.value :: s'.L → MC B0 w' u p b2 c2 x gs (upd ss (t.k s) s') s M' nw (obOf none s) := fun ha hl hS hL => (h.c.pop hkn hA hG hS ha hl (by rw [hL]; simp)).ob (fun i hi => (obn s s t i).symm)
    refine (step_one w t.y x (gs (t.k s)) ⟨t.px, t.j, 0, false⟩ s _ hact rfl hC (fun w' ⟨M', s', A', ha, hl, hS, hL, ho, hk, hm⟩ => ⟨keepA hS.chg, (hpop ha hl hS hL).lane, A', hS.all.a, hk⟩) hat0 hj h.c.n2).mono fun e w'' ⟨he, w', ⟨M', s', A', ha, hl, hS, hL, ho, hk, hm⟩, hact2, hlane2, hc2⟩ => ?_
    have hp := hpop ha hl hS hL
    have hyb := keepA hS.chg
    have hno : ∀ {j t' : Nat} {cs : List Value}, Blk w' j cs t' → t' ≠ 109 → t' ≠ 111 → ¬ (j = t.y ∨ j = x) := fun hb n1 n2 q => by
      rcases q with q | q
      · exact Blk.ne hb hyb n1 q
      · exact Blk.ne hb hp.lane n2 q
    have hmw := (hp.re (s2 := { s with at_ := (t.k s + 1) % s.n }) (b := false) hc2 (fun j q => by rcases q with q | q; exact .inr (.inr ⟨_, q ▸ hyb⟩); exact .inl q) hkn hlane2 rfl rfl (Nat.mod_lt _ (by omega)) (Blk.chg (hp.r _ hkn) hc2 (hno (hp.r _ hkn) (by decide) (by decide)))).ob (ob' := obOf none { s with at_ := (t.k s + 1) % s.n }) (fun i hi => by
      unfold updB obOf
      by_cases e : i = t.k s
      · rw [if_pos e]
      · rw [if_neg e])
    have hA2 : ActAt w'' t.px (gs (t.k s)) A' := Blk.chg hS.all.a hc2 (hno hS.all.a (by decide) (by decide))
    exact ⟨true, he, mbx (hmb hS.chg) hc2 (fun j _ q => by rcases q with q | q; exact q ▸ my; exact q ▸ mx), .one (t.k s) A'.value _ _ M' hkn (by rfl) (by rw [upd_same]; exact hL) (fun i hi => by rw [upd_far ss _ hi]) hS.t ⟨x, _, _, A', hact2, rfl, hA2, hk, fun _ => ⟨rfl, rfl⟩, hm⟩ ⟨hmw, .inr ⟨t.y, x, _, hsa, hact2, rfl⟩⟩⟩
end

abbrev BN := Bool → Nat
def updF {α : Type} (f : Bool → Nat → α) (a : Bool) (k : Nat) (v : α) : Bool → Nat → α := fun b j => if b = a ∧ j = k then v else f b j
theorem updF_same {α : Type} (f : Bool → Nat → α) (a : Bool) (k : Nat) (v : α) : updF f a k v a k = v := by unfold updF; rw [if_pos ⟨rfl, rfl⟩]
theorem updF_far {α : Type} (f : Bool → Nat → α) {a : Bool} {k : Nat} (v : α) {b : Bool} {j : Nat} (h : ¬ (b = a ∧ j = k)) : updF f a k v b j = f b j := by unfold updF; rw [if_neg h]
/-- Two blocks of rows. -/
structure Mats (w : World) (B n : Nat) (bb : BN) (fv : Bool → Nat → Value) (fl : Bool → Nat → List Int) : Prop where
  out : ∀ a, ∃ cs, Blk w (bb a) cs 44 ∧ ∀ i, i < n → cs[i]? = some (fv a i)
  own : ∀ a i, i < n → w.ownsRow B 29 1 (fv a i) (fl a i).length (nums .u64 (fl a i))
  ap : ∀ a i b j, i < n → j < n → ¬ (b = a ∧ j = i) → (fv a i).ownBlock = (fv b j).ownBlock → (fv a i).ownBlock = none
  bn : bb false ≠ bb true
  bB : ∀ a, B ≤ bb a
section
variable {w w' w1 : World} {B n : Nat} {bb : BN} {fv : Bool → Nat → Value} {fl : Bool → Nat → List Int}
theorem Mats.keep {S : Nat → Prop} (h : Mats w B n bb fv fl) (hc : Chg S w w') (hS : ∀ k t cs, Blk w k cs t → B ≤ k → S k → t ≠ 44 ∧ t ≠ 29) : Mats w' B n bb fv fl := by
  refine ⟨fun a => ?_, fun a i hi => own_fr (h.own a i hi) (fun k cs hb hk _ => Blk.chg hb hc (fun hs => (hS _ _ _ hb hk hs).2 rfl)), h.ap, h.bn, h.bB⟩
  obtain ⟨cs, hb, hcs⟩ := h.out a
  exact ⟨cs, Blk.chg hb hc (fun hs => (hS _ _ _ hb (h.bB a) hs).1 rfl), hcs⟩
theorem Mats.gblk (h : Mats w B n bb fv fl) {a : Bool} {k : Nat} (hk : k < n) (hg : w.grownBy w1 (fv a k).ownBlock) {g t : Nat} {cs : List Value} (hb : Blk w g cs t) (ht : t ≠ 29) : Blk w1 g cs t := by
  refine blk_grown hb hg (fun e => ?_)
  obtain ⟨_, cs', hc⟩ := own_some (h.own a k hk) e.symm
  exact ht (Blk.ty hb hc)
theorem bbne (hn : bb false ≠ bb true) {a b : Bool} (h : b ≠ a) : bb b ≠ bb a := by
  cases a <;> cases b <;> simp at h ⊢
  · exact hn.symm
  · exact hn
/-- A number more in a row. -/
theorem Mats.grown (h : Mats w B n bb fv fl) {a : Bool} {k : Nat} (hk : k < n) {v1 : Value} {L : List Int} (ho : w1.ownsRow B 29 1 v1 L.length (nums .u64 L)) (hg : w.grownBy w1 (fv a k).ownBlock) (hat : v1.ownBlock = (fv a k).ownBlock ∨ ∃ g, v1.ownBlock = some g ∧ w.heap.size ≤ g) :
    Mats (w1.setCell ⟨bb a, k, none⟩ v1) B n bb (updF fv a k v1) (updF fl a k L) := by
  obtain ⟨cs, hbk, hcs⟩ := h.out a
  have hb1 := h.gblk hk hg hbk (by decide)
  have hkl : k < cs.length := by
    rcases Nat.lt_or_ge k cs.length with q | q
    · exact q
    · have := hcs k hk; rw [List.getElem?_eq_none q] at this; cases this
  refine ⟨fun b => ?_, fun b i hi => ?_, fun b i c j hi hj hij e => ?_, h.bn, h.bB⟩
  · by_cases c : b = a
    · subst c
      refine ⟨cs.set k v1, Blk.set hb1 k _, fun i hi => ?_⟩
      by_cases d : i = k
      · subst d; rw [updF_same]; simp [hkl]
      · rw [updF_far fv v1 (fun q => d q.2), List.getElem?_set_ne (fun e => d e.symm)]; exact hcs i hi
    · obtain ⟨cs2, hb2, hcs2⟩ := h.out b
      refine ⟨cs2, Blk.far (h.gblk hk hg hb2 (by decide)) (bbne h.bn c) _, fun i hi => ?_⟩
      rw [updF_far fv v1 (fun q => c q.1)]; exact hcs2 i hi
  · by_cases c : b = a ∧ i = k
    · obtain ⟨rfl, rfl⟩ := c
      rw [updF_same, updF_same]
      exact own_fr ho (fun g gs hgb _ _ => Blk.far hgb (hgb.ne hb1 (by decide)) _)
    · rw [updF_far fv v1 c, updF_far fl L c]
      have h1 : w1.ownsRow B 29 1 (fv b i) (fl b i).length (nums .u64 (fl b i)) := own_fr (h.own b i hi) (fun g gs hgb _ e => blk_grown hgb hg (fun e2 => by
        have := h.ap b i a k hi hk (fun q => c ⟨q.1.symm, q.2.symm⟩) (by rw [e, e2])
        rw [e] at this; cases this))
      exact own_fr h1 (fun g gs hgb _ _ => Blk.far hgb (hgb.ne hb1 (by decide)) _)
  · have key : ∀ b i, i < n → ¬ (b = a ∧ i = k) → (fv b i).ownBlock = v1.ownBlock → (fv b i).ownBlock = none := by
      intro b i hi c e
      rcases hat with q | ⟨g, q, hgs⟩
      · exact h.ap b i a k hi hk (fun q => c ⟨q.1.symm, q.2.symm⟩) (by rw [e, q])
      · rcases q2 : (fv b i).ownBlock with _ | g2
        · rfl
        · have h2 := (own_some (h.own b i hi) q2).1
          rw [q2, q] at e
          injection e with e
          omega
    by_cases d : b = a ∧ i = k
    · obtain ⟨rfl, rfl⟩ := d
      have d2 : ¬ (c = b ∧ j = i) := hij
      rw [updF_same] at e ⊢
      rw [updF_far fv v1 d2] at e
      rw [e]; exact key c j hj d2 e.symm
    · rw [updF_far fv v1 d] at e ⊢
      by_cases d2 : c = a ∧ j = k
      · obtain ⟨rfl, rfl⟩ := d2
        rw [updF_same] at e; exact key b i hi d e
      · rw [updF_far fv v1 d2] at e; exact h.ap b i c j hi hj hij e
theorem Mats.cell (h : Mats w B n bb fv fl) (a : Bool) {k : Nat} (hk : k < n) : ∃ A c, fv a k = .slice A (fl a k).length c ∧ w.cell? ⟨bb a, k, none⟩ = some (.slice A (fl a k).length c) ∧ w.frozen? ⟨bb a, k, none⟩ = false ∧ ReadsInt w .u64 A (fl a k).length (fl a k) := by
  obtain ⟨A, c, e, hr⟩ := own_reads (h.own a k hk)
  obtain ⟨cs, hb, hcs⟩ := h.out a
  exact ⟨A, c, e, by rw [Blk.cell hb k, hcs k hk, e], Blk.frozen hb k, hr⟩
end
/-- A block of n cells. -/
def Cells (w : World) (b t n : Nat) (f : Nat → Value) : Prop := ∃ cs, Blk w b cs t ∧ ∀ i, i < n → cs[i]? = some (f i)
theorem Cells.cell {w : World} {b t n : Nat} {f : Nat → Value} (h : Cells w b t n f) {i : Nat} (hi : i < n) : w.cell? ⟨b, i, none⟩ = some (f i) ∧ w.frozen? ⟨b, i, none⟩ = false := by
  obtain ⟨cs, hb, hc⟩ := h
  exact ⟨(Blk.cell hb i).trans (hc i hi), Blk.frozen hb i⟩
theorem Cells.chg {w w' : World} {b t n : Nat} {f : Nat → Value} {S : Nat → Prop} (h : Cells w b t n f) (hc : Chg S w w') (hS : ∀ cs, Blk w b cs t → ¬ S b) : Cells w' b t n f := by
  obtain ⟨cs, hb, hcs⟩ := h
  exact ⟨cs, Blk.chg hb hc (hS cs hb), hcs⟩
theorem Cells.set {w : World} {b t n : Nat} {f : Nat → Value} (h : Cells w b t n f) {k : Nat} (hk : k < n) (v : Value) : Cells (w.setCell ⟨b, k, none⟩ v) b t n (fun i => if i = k then v else f i) := by
  obtain ⟨cs, hb, hc⟩ := h
  refine ⟨cs.set k v, Blk.set hb k v, fun i hi => ?_⟩
  have hkl : k < cs.length := by
    rcases Nat.lt_or_ge k cs.length with q | q
    · exact q
    · have := hc k hk; rw [List.getElem?_eq_none q] at this; cases this
  by_cases e : i = k
  · subst e; simp [hkl]
  · rw [List.getElem?_set_ne (fun q => e q.symm)]; show _ = some (if i = k then v else f i); rw [if_neg e]; exact hc i hi
theorem Cells.far {w : World} {b t n : Nat} {f : Nat → Value} (h : Cells w b t n f) {p : Addr} (hp : b ≠ p.block) (v : Value) : Cells (w.setCell p v) b t n f := by
  obtain ⟨cs, hb, hc⟩ := h
  exact ⟨cs, Blk.far hb hp v, hc⟩
theorem Cells.eq {w : World} {b t n : Nat} {f g : Nat → Value} (h : Cells w b t n f) (e : ∀ i, i < n → f i = g i) : Cells w b t n g := by
  obtain ⟨cs, hb, hc⟩ := h
  exact ⟨cs, hb, fun i hi => by rw [hc i hi, e i hi]⟩
def nwa (nw : Nat → Option NwS) (i : Nat) : Option Addr := match nw i with
  | none => none
  | some t => some ⟨t.px, 0, none⟩
abbrev nwv (nw : Nat → Option NwS) (i : Nat) : Value := .pointer (nwa nw i)
theorem nwa_none {nw : Nat → Option NwS} {i : Nat} (h : nw i = none) : nwa nw i = none := by unfold nwa; rw [h]
theorem nwa_some {nw : Nat → Option NwS} {i : Nat} {t : NwS} (h : nw i = some t) : nwa nw i = some ⟨t.px, 0, none⟩ := by unfold nwa; rw [h]
theorem nwv_upd (nw : Nat → Option NwS) (k : Nat) (t : Option NwS) (i : Nat) : nwv (updN nw k t) i = if i = k then (match t with | none => .pointer none | some t => pt t.px) else nwv nw i := by
  unfold nwv nwa updN
  by_cases e : i = k
  · rw [if_pos e, if_pos e]; cases t <;> rfl
  · rw [if_neg e, if_neg e]
/-- The law's rows. -/
structure TR (w0 : World) (w : World) (p : Mp) (n : Nat) (B AT NW : Nat) (bb : BN) (at_ : Nat → Nat) (nv : Nat → Value) (fv : Bool → Nat → Value) (fl : Bool → Nat → List Int) : Prop where
  mt : Mats w B n bb fv fl
  at_ : Cells w AT 3 n (fun i => .int .i64 (at_ i))
  now : Cells w NW 56 n nv
  aB : B ≤ AT
  nB : B ≤ NW
  pl : ∀ k, p.has k → k < B
  bel : Below w0.heap.size w0 w
  b0 : w0.heap.size ≤ B
  bs : B ≤ w.heap.size
/-- Blocks of the law's own. -/
def RT (B : Nat) (w : World) (k : Nat) : Prop := B ≤ k ∧ ∀ cs t, Blk w k cs t → t = 3 ∨ t = 56 ∨ t = 44 ∨ t = 29
section
variable {w0 w w' : World} {u : Nat} {p : Mp} {b2 c2 x : Nat} {gs : Nat → Nat} {n : Nat} {ss ss' : Nat → LR} {s s' : LaneS} {M M' : MemS} {nw nw' : Nat → Option NwS} {tk tk' : Option TkS} {B AT NW : Nat} {bb : BN} {at_ : Nat → Nat} {nv : Nat → Value} {fv : Bool → Nat → Value} {fl : Bool → Nat → List Int} {B0 : Nat}
theorem cells_fn {w : World} {b t n : Nat} {f : Nat → Value} (h : Cells w b t n f) : ∃ cs, Blk w b cs t := by obtain ⟨cs, hb, _⟩ := h; exact ⟨cs, hb⟩
/-- The machine has moved. -/
theorem TR.mach (h : TR w0 w p n B AT NW bb at_ nv fv fl) (hc : Chg (MB w0.heap.size p w) w w') : TR w0 w' p n B AT NW bb at_ nv fv fl := by
  have hno : ∀ {k t : Nat} {cs : List Value}, Blk w k cs t → B ≤ k → t ≠ 103 → t ≠ 107 → t ≠ 111 → t ≠ 109 → ¬ MB w0.heap.size p w k := by
    rintro k t cs hb hk h1 h2 h3 h4 ⟨_, q | ⟨cs', t', hb', q⟩⟩
    · have := h.pl k q; omega
    · have e := Blk.ty hb hb'
      subst e
      rcases q with q | q | q | q
      · exact h1 q
      · exact h2 q
      · exact h3 q
      · exact h4 q
  refine ⟨h.mt.keep hc (fun k t cs hb hk q => ?_), h.at_.chg hc (fun cs hb => hno hb h.aB (by decide) (by decide) (by decide) (by decide)), h.now.chg hc (fun cs hb => hno hb h.nB (by decide) (by decide) (by decide) (by decide)), h.aB, h.nB, h.pl, below_chg h.bel hc h.bel.size (fun k q => q.1), h.b0, Nat.le_trans h.bs hc.size⟩
  constructor
  · rintro rfl; exact hno hb hk (by decide) (by decide) (by decide) (by decide) q
  · rintro rfl; exact hno hb hk (by decide) (by decide) (by decide) (by decide) q
/-- The law's own has changed. -/
theorem MW.rt (h : MW B0 w u p b2 c2 x gs ss s M nw tk) (hc : Chg (RT B w) w w') (pl : ∀ k, p.has k → k < B) : MW B0 w' u p b2 c2 x gs ss s M nw tk :=
  h.keep hc (fun k hk => ⟨fun q => by have := pl k q; have := hk.1; omega, fun cs t hb => by
    rcases hk.2 cs t hb with e | e | e | e <;> subst e <;> exact ⟨by decide, by decide, by decide, by decide, by decide, by decide⟩⟩)
theorem ActSt.rt {y : Nat} {ok : Bool} {v fr : Int} (h : ActSt w y ok v fr) (hc : Chg (RT B w) w w') : ActSt w' y ok v fr :=
  h.chg hc (fun hb ht q => by rcases ht with e | e <;> subst e <;> rcases q.2 _ _ hb with e | e | e | e <;> exact absurd e (by decide))
theorem Act.rt {y g : Nat} {A : ActS} (h : ActAt w y g A) (hc : Chg (RT B w) w w') : ActAt w' y g A :=
  Blk.chg h hc (fun q => by rcases q.2 _ _ h with e | e | e | e <;> exact absurd e (by decide))
theorem TR.below (h : TR w0 w p n B AT NW bb at_ nv fv fl) (hb : Below w.heap.size w w') : TR w0 w' p n B AT NW bb at_ nv fv fl :=
  have hc : Chg (fun _ => False) w w' := Chg.of_below hb
  ⟨h.mt.keep hc (fun _ _ _ _ _ q => q.elim), h.at_.chg hc (fun _ _ => id), h.now.chg hc (fun _ _ => id), h.aB, h.nB, h.pl, below_step h.bel hb, h.b0, Nat.le_trans h.bs hb.size⟩
theorem TR.drew (h : TR w0 w p n B AT NW bb at_ nv fv fl) : TR w0 w.drew p n B AT NW bb at_ nv fv fl := h.below (below_drew1 (Below.refl _ _))
theorem TR.drewN (h : TR w0 w p n B AT NW bb at_ nv fv fl) (m : Nat) : TR w0 (w.drewN m) p n B AT NW bb at_ nv fv fl := h.below (pw_below_drewN (Below.refl _ _) m)
theorem TR.setAt (h : TR w0 w p n B AT NW bb at_ nv fv fl) {k : Nat} (hk : k < n) (v : Nat) : TR w0 (w.setCell ⟨AT, k, none⟩ (.int .i64 v)) p n B AT NW bb (fun i => if i = k then v else at_ i) nv fv fl ∧ Chg (RT B w) w (w.setCell ⟨AT, k, none⟩ (.int .i64 v)) := by
  obtain ⟨cs, hb⟩ := cells_fn h.at_
  have hc : Chg (fun j => j = AT) w (w.setCell ⟨AT, k, none⟩ (.int .i64 v)) := Chg.set (S := fun j => j = AT) (Chg.refl _ _) (.inl rfl) _
  refine ⟨⟨h.mt.keep hc (fun j t cs' hb' hk q => ?_), (h.at_.set hk _).eq (fun i _ => by by_cases e : i = k <;> simp [e]), h.now.chg hc (fun cs' hb' e => ?_), h.aB, h.nB, h.pl, below_chg h.bel hc h.bel.size (fun k q => Nat.le_trans h.b0 (q ▸ h.aB)), h.b0, Nat.le_trans h.bs hc.size⟩, hc.mono (fun j _ q => ⟨q ▸ h.aB, fun cs' t hb' => .inl (Blk.ty (q ▸ hb') hb)⟩)⟩
  · have e := Blk.ty (q ▸ hb') hb
    subst e; exact ⟨by decide, by decide⟩
  · exact absurd (Blk.ty (e ▸ hb') hb) (by decide)
theorem TR.setNow (h : TR w0 w p n B AT NW bb at_ nv fv fl) {k : Nat} (hk : k < n) (v : Value) : TR w0 (w.setCell ⟨NW, k, none⟩ v) p n B AT NW bb at_ (fun i => if i = k then v else nv i) fv fl ∧ Chg (RT B w) w (w.setCell ⟨NW, k, none⟩ v) := by
  obtain ⟨cs, hb⟩ := cells_fn h.now
  have hc : Chg (fun j => j = NW) w (w.setCell ⟨NW, k, none⟩ v) := Chg.set (S := fun j => j = NW) (Chg.refl _ _) (.inl rfl) _
  refine ⟨⟨h.mt.keep hc (fun j t cs' hb' hk q => ?_), h.at_.chg hc (fun cs' hb' e => ?_), h.now.set hk _, h.aB, h.nB, h.pl, below_chg h.bel hc h.bel.size (fun k q => Nat.le_trans h.b0 (q ▸ h.nB)), h.b0, Nat.le_trans h.bs hc.size⟩, hc.mono (fun j _ q => ⟨q ▸ h.nB, fun cs' t hb' => .inr (.inl (Blk.ty (q ▸ hb') hb))⟩)⟩
  · have e := Blk.ty (q ▸ hb') hb
    subst e; exact ⟨by decide, by decide⟩
  · exact absurd (Blk.ty (e ▸ hb') hb) (by decide)
/-- A number more was put, or got. -/
theorem TR.grown (h : TR w0 w p n B AT NW bb at_ nv fv fl) {w1 : World} {a : Bool} {k : Nat} (hk : k < n) {v1 : Value} {L : List Int} (ho : w1.ownsRow B 29 1 v1 L.length (nums .u64 L)) (hg : w.grownBy w1 (fv a k).ownBlock) (hat : v1.ownBlock = (fv a k).ownBlock ∨ ∃ g, v1.ownBlock = some g ∧ w.heap.size ≤ g) :
    TR w0 (w1.setCell ⟨bb a, k, none⟩ v1) p n B AT NW bb at_ nv (updF fv a k v1) (updF fl a k L) ∧ Chg (RT B w) w (w1.setCell ⟨bb a, k, none⟩ v1) := by
  obtain ⟨cs, hbk, hcs⟩ := h.mt.out a
  have hc : Chg (fun j => j = bb a ∨ (fv a k).ownBlock = some j) w (w1.setCell ⟨bb a, k, none⟩ v1) := Chg.set ((Chg.of_grown hg).mono (fun j _ q => .inr q.symm)) (.inl (.inl rfl)) _
  have hS : ∀ j, (j = bb a ∨ (fv a k).ownBlock = some j) → B ≤ j ∧ ∀ cs t, Blk w j cs t → t = 44 ∨ t = 29 := by
    rintro j (q | q)
    · exact ⟨q ▸ h.mt.bB a, fun cs' t hb' => .inl (Blk.ty (q ▸ hb') hbk)⟩
    · obtain ⟨_, cs', hb'⟩ := own_some (h.mt.own a k hk) q
      exact ⟨own_base (h.mt.own a k hk) j q, fun cs2 t hb2 => .inr (Blk.ty hb2 hb')⟩
  refine ⟨⟨h.mt.grown hk ho hg hat, h.at_.chg hc (fun cs' hb' e => ?_), h.now.chg hc (fun cs' hb' e => ?_), h.aB, h.nB, h.pl, below_chg h.bel hc h.bel.size (fun k q => Nat.le_trans h.b0 (hS k q).1), h.b0, Nat.le_trans h.bs hc.size⟩, hc.mono (fun j _ q => ⟨(hS j q).1, fun cs t hb => .inr (.inr ((hS j q).2 cs t hb))⟩)⟩
  · rcases (hS _ e).2 _ _ hb' with q | q <;> exact absurd q (by decide)
  · rcases (hS _ e).2 _ _ hb' with q | q <;> exact absurd q (by decide)
theorem TR.eqN (h : TR w0 w p n B AT NW bb at_ nv fv fl) {nv' : Nat → Value} (e : ∀ i, i < n → nv i = nv' i) : TR w0 w p n B AT NW bb at_ nv' fv fl := { h with now := h.now.eq e }
end
end Go.Proofs.Ytejplbeddcpmeaa.Lane
