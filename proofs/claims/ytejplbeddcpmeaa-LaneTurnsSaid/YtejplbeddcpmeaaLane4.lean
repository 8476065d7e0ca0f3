/- A taking from Next to its end: the states behind each Step; no condition beyond a bound of the time. -/
import Derived.Test.YtejplbeddcpmeaaLane3
namespace Go.Proofs.Ytejplbeddcpmeaa.Lane
open Go.RowKit Go.Proofs.YtejplbeddcpmeaaW.PrintWords Go.Proofs.Ytejplbeddcpmeaa.Heap Go.Proofs.Ytejplbeddcpmeaa.Mem Go.Proofs.Ytejplbeddcpmeaa.Ring
set_option linter.unusedVariables false
set_option linter.unusedSimpArgs false

/-- Rings that nobody puts into or takes from. -/
structure Rings (w : World) (p : Mp) (n : Nat) (gs : Nat → Nat) (ss : Nat → LR) (M : MemS) : Prop where
  m : MemAt 97 w p M
  r : ∀ i, i < n → RingAt w (gs i) p ((ss i).ring false false)
  inv : ∀ i, i < n → (ss i).Inv M
  ap : ∀ i j, i < n → j < n → i ≠ j → Apart (ss i) (ss j)
  ne : ∀ i j, i < n → j < n → i ≠ j → gs i ≠ gs j
/-- The blocks that a taking may change. -/
def LT (p : Mp) (x n : Nat) (gs : Nat → Nat) (k : Nat) : Prop := p.has k ∨ k = x ∨ ∃ i, i < n ∧ k = gs i
/-- A taking that looks at a ring, the Pop not begun. -/
structure Lk (w0 : World) (p : Mp) (gs : Nat → Nat) (ss : Nat → LR) (x y : Nat) (s : LaneS) (M0 : MemS) (i px : Nat) (M : MemS) (W : World) : Prop where
  act : LActAt W y x ⟨px, i, 0, false⟩
  lane : LaneAt W x { s with act := pt y }
  all : All W p (gs ((s.at_ + i) % s.n)) px M ((ss ((s.at_ + i) % s.n)).ring false true) newAct
  inv : ∀ j, j < s.n → (ss j).Inv M
  oth : ∀ j, j < s.n → j ≠ (s.at_ + i) % s.n → RingAt W (gs j) p ((ss j).ring false false)
  row : Row W s.b s.n gs
  ap : ∀ i j, i < s.n → j < s.n → i ≠ j → Apart (ss i) (ss j)
  ne : ∀ i j, i < s.n → j < s.n → i ≠ j → gs i ≠ gs j
  t0 : 0 ≤ M.time
  tm : M.time ≤ M0.time + i
  chg : Chg (LT p x s.n gs) w0 W
  pb : w0.heap.size ≤ px
  yb : w0.heap.size ≤ y
theorem Lk.kn {w0 : World} {p : Mp} {gs : Nat → Nat} {ss : Nat → LR} {x y : Nat} {s : LaneS} {M0 : MemS} {i px : Nat} {M : MemS} {W : World} (h : Lk w0 p gs ss x y s M0 i px M W) (hn : 0 < s.n) : (s.at_ + i) % s.n < s.n := Nat.mod_lt _ hn
theorem Row.mra {w w' : World} {b n : Nat} {gs : Nat → Nat} {p : Mp} {g x : Nat} {M : MemS} {R : RingS} {A : ActS} (h : Row w b n gs) (ha : All w p g x M R A) (hc : Chg (Mra p g x) w w') : Row w' b n gs := by
  obtain ⟨cs, hb, hr⟩ := h
  exact ⟨cs, Blk.mra hb ha hc (by decide) (by decide) (by decide) (by decide) (by decide), hr⟩
/-- What stays while the Pop goes on. -/
theorem Lk.keep {w0 : World} {p : Mp} {gs : Nat → Nat} {ss : Nat → LR} {x y : Nat} {s : LaneS} {M0 : MemS} {i px : Nat} {M : MemS} {W W' : World} (h : Lk w0 p gs ss x y s M0 i px M W) (hn : 0 < s.n) (hc : Chg (Mra p (gs ((s.at_ + i) % s.n)) px) W W') :
    LActAt W' y x ⟨px, i, 0, false⟩ ∧ LaneAt W' x { s with act := pt y } ∧ Row W' s.b s.n gs ∧ (∀ j, j < s.n → j ≠ (s.at_ + i) % s.n → RingAt W' (gs j) p ((ss j).ring false false)) ∧ Chg (LT p x s.n gs) w0 W' := by
  refine ⟨Blk.mra h.act h.all hc (by decide) (by decide) (by decide) (by decide) (by decide), Blk.mra h.lane h.all hc (by decide) (by decide) (by decide) (by decide) (by decide), h.row.mra h.all hc, fun j hj hne => ?_, Chg.step h.chg hc (fun k hk hm => ?_)⟩
  · have hr := h.oth j hj hne
    refine Blk.chg hr hc ?_
    rintro (q | q | q)
    · exact ne_mem h.all.m hr (by decide) (by decide) (by decide) q
    · exact h.ne j _ hj (h.kn hn) hne q
    · exact Blk.ne hr h.all.a (by decide) q
  · rcases hm with q | q | q
    · exact .inl q
    · exact .inr (.inr ⟨_, h.kn hn, q⟩)
    · exact absurd hk (by rw [q]; exact Nat.not_lt.2 h.pb)
/-- A taking that is over. -/
structure LFin (w0 : World) (p : Mp) (gs : Nat → Nat) (ss : Nat → LR) (x y : Nat) (s : LaneS) (M0 : MemS) (N : Nat) (at2 px : Nat) (a : LAct) (A : ActS) (M : MemS) (W : World) : Prop where
  act : LActAt W y x a
  ao : a.over = true
  ap : a.pop = px
  lane : LaneAt W x { s with act := pt y, at_ := at2 }
  pop : ∃ g, ActAt W px g A
  rings : Rings W p s.n gs ss M
  row : Row W s.b s.n gs
  mrk : 1 ≤ A.mark
  t0 : 0 ≤ M.time
  tm : M.time ≤ M0.time + N
  chg : Chg (LT p x s.n gs) w0 W
  yb : w0.heap.size ≤ y
  pb : w0.heap.size ≤ px
theorem apart_symm {s t : LR} (h : Apart s t) : Apart t s := h.symm

section
variable {w0 : World} {p : Mp} {gs : Nat → Nat} {ss : Nat → LR} {x y : Nat} {s : LaneS} {M0 : MemS} {i px : Nat} {M : MemS} {W : World}
theorem Lk.invs (h : Lk w0 p gs ss x y s M0 i px M W) (hn : 0 < s.n) {M' : MemS} (hI : (ss ((s.at_ + i) % s.n)).Inv M') (ha : ∀ t : LR, Apart (ss ((s.at_ + i) % s.n)) t → t.Inv M → t.Inv M') : ∀ j, j < s.n → (ss j).Inv M' := by
  intro j hj
  by_cases e : j = (s.at_ + i) % s.n
  · rw [e]; exact hI
  · exact ha _ (h.ap _ _ (h.kn hn) hj (fun q => e q.symm)) (h.inv j hj)
/-- The ring has none, and another one is looked at. -/
theorem look_next (h : Lk w0 p gs ss x y s M0 i px M W) (hn : i + 1 < s.n) (hn2 : s.n ≤ 1000) (h0 : s.at_ < s.n) (he : (ss ((s.at_ + i) % s.n)).L = []) (ht : M.time < 4611686018427387890) :
    Calls Try.prog 61 #[pt y] W fun e W' => e = .returned (.bool false) ∧ ∃ px' M', Lk w0 p gs ss x y s M0 (i + 1) px' M' W' := by
  have hS := none0 W p (gs ((s.at_ + i) % s.n)) px M (ss ((s.at_ + i) % s.n)) false he ht W (At.start h.all (h.inv _ (h.kn (by omega))))
  have hne : (s.at_ + (i + 1)) % s.n ≠ (s.at_ + i) % s.n := by
    intro q
    by_cases c : s.at_ + i + 1 < s.n
    · rw [Nat.mod_eq_of_lt (by omega), Nat.mod_eq_of_lt (by omega)] at q; omega
    · by_cases d : s.at_ + i < s.n
      · have e1 : s.at_ + (i + 1) = s.n := by omega
        rw [e1, Nat.mod_self, Nat.mod_eq_of_lt d] at q; omega
      · rw [Nat.mod_eq_sub_mod (by omega), Nat.mod_eq_sub_mod (a := s.at_ + i) (by omega), Nat.mod_eq_of_lt (by omega), Nat.mod_eq_of_lt (by omega)] at q; omega
  have hk1 : (s.at_ + (i + 1)) % s.n < s.n := Nat.mod_lt _ (by omega)
  refine (step_next W y x p gs (gs ((s.at_ + i) % s.n)) ⟨px, i, 0, false⟩ { s with act := pt y } _ (fun _ M' R => (∀ j, j < s.n → (ss j).Inv M') ∧ R = (ss ((s.at_ + (i + 1)) % s.n)).ring false false ∧ M'.time = M.time + 1) ((s.at_ + (i + 1)) % s.n) rfl h.act rfl hS (fun w' q => ?_) h0 hn hn2).mono fun e W' ⟨he2, w', M', R, px', q, ⟨hi, hR, hT2⟩, hm, hr, hact, hall, hc, hpx⟩ => ⟨he2, px', M', ?_⟩
  · obtain ⟨⟨M', ha, hI, hT, hap⟩, hc⟩ := q
    obtain ⟨k1, k2, k3, k4, k5⟩ := h.keep (by omega) hc
    exact ⟨k1, k2, ⟨_, ha.a, rfl⟩, k3, M', _, ⟨h.invs (by omega) hI hap, rfl, by omega⟩, ha.m, k4 _ hk1 hne, ring_ok (h.invs (by omega) hI hap _ hk1) false false, rfl⟩
  · obtain ⟨⟨M2, ha, hI, hT, hap⟩, hc2⟩ := q
    obtain ⟨k1, k2, k3, k4, k5⟩ := h.keep (by omega) hc2
    subst hR
    have hbx : ∀ {b t : Nat} {cs : List Value}, Blk w' b cs t → t ≠ 109 → t ≠ 103 → Blk W' b cs t := fun hb h1 h2 => by
      refine Blk.chg hb hc ?_
      rintro (q | q)
      · exact Blk.ne hb k1 h1 q
      · exact Blk.ne hb hr h2 q
    refine ⟨hact, hbx k2 (by decide) (by decide), hall, hi, fun j hj hne2 => ?_, ?_, h.ap, h.ne, by have := h.t0; omega, by have := h.tm; push_cast; omega, Chg.step k5 hc (fun k hk q => ?_), ?_, h.yb⟩
    · by_cases e : j = (s.at_ + i) % s.n
      · rw [e]
        refine Blk.chg ha.r hc ?_
        rintro (q | q)
        · exact Blk.ne ha.r k1 (by decide) q
        · exact h.ne _ _ (h.kn (by omega)) hk1 (fun q => hne q.symm) q
      · have hr2 := k4 j hj e
        refine Blk.chg hr2 hc ?_
        rintro (q | q)
        · exact Blk.ne hr2 k1 (by decide) q
        · exact h.ne _ _ hj hk1 hne2 q
    · obtain ⟨cs, hb, hcs⟩ := k3
      exact ⟨cs, hbx hb (by decide) (by decide), hcs⟩
    · rcases q with q | q
      · exact absurd hk (by rw [q]; exact Nat.not_lt.2 h.yb)
      · exact .inr (.inr ⟨_, hk1, q⟩)
    · exact Nat.le_trans k5.size hpx
/-- The last ring has none. -/
theorem look_none (h : Lk w0 p gs ss x y s M0 i px M W) (hn : i + 1 = s.n) (hn2 : s.n ≤ 1000) (h0 : s.at_ < s.n) (he : (ss ((s.at_ + i) % s.n)).L = []) (ht : M.time < 4611686018427387890) :
    Calls Try.prog 61 #[pt y] W fun e W' => e = .returned (.bool true) ∧ ∃ A M', A.ok = false ∧ LFin w0 p gs ss x y s M0 (i + 1) s.at_ px ⟨px, i, 0, true⟩ A M' W' := by
  have hS := none0 W p (gs ((s.at_ + i) % s.n)) px M (ss ((s.at_ + i) % s.n)) false he ht W (At.start h.all (h.inv _ (h.kn (by omega))))
  refine (step_none W y x (gs ((s.at_ + i) % s.n)) ⟨px, i, 0, false⟩ { s with act := pt y } _ h.act rfl hS (fun w' q => ?_) hn hn2).mono fun e W' ⟨he2, w', q, hact, hc⟩ => ⟨he2, ?_⟩
  · obtain ⟨⟨M', ha, hI, hT, hap⟩, hc⟩ := q
    obtain ⟨k1, k2, k3, k4, k5⟩ := h.keep (by omega) hc
    exact ⟨k1, k2, _, ha.a, rfl⟩
  · obtain ⟨⟨M2, ha, hI, hT, hap⟩, hc2⟩ := q
    obtain ⟨k1, k2, k3, k4, k5⟩ := h.keep (by omega) hc2
    have hbx : ∀ {b t : Nat} {cs : List Value}, Blk w' b cs t → t ≠ 109 → Blk W' b cs t := fun hb h1 => Blk.chg hb hc (Blk.ne hb k1 h1)
    have hm2 : MemAt 97 W' p M2 := ha.m.chg hc (fun k hk q => ne_mem ha.m k1 (by decide) (by decide) (by decide) (q ▸ hk))
    have ht0 := h.t0
    have htm := h.tm
    refine ⟨_, M2, rfl, hact, rfl, rfl, hbx k2 (by decide), ⟨_, hbx ha.a (by decide)⟩, ⟨hm2, fun j hj => ?_, h.invs (by omega) hI hap, h.ap, h.ne⟩, ?_, ?_, by omega, by push_cast; omega, Chg.step k5 hc (fun k hk q => absurd hk (by rw [q]; exact Nat.not_lt.2 h.yb)), h.yb, h.pb⟩
    · by_cases e : j = (s.at_ + i) % s.n
      · rw [e]; exact hbx ha.r (by decide)
      · exact hbx (k4 j hj e) (by decide)
    · obtain ⟨cs, hb, hcs⟩ := k3
      exact ⟨cs, hbx hb (by decide), hcs⟩
    · show 1 ≤ M.time + 1
      omega
/-- The ring has one: its Pop's first two Steps. -/
theorem look_one0 (h : Lk w0 p gs ss x y s M0 i px M W) (hn : i < s.n) {v : Int} {L : List Int} (he : (ss ((s.at_ + i) % s.n)).L = v :: L) (ht : M.time < 4611686018427387890) :
    Calls Try.prog 61 #[pt y] W fun e W' => e = .returned (.bool false) ∧ stOne W p (gs ((s.at_ + i) % s.n)) px M (ss ((s.at_ + i) % s.n)) false v L 1 W' :=
  step_false W y x ⟨px, i, 0, false⟩ _ h.act rfl (one0 W p (gs ((s.at_ + i) % s.n)) px M (ss ((s.at_ + i) % s.n)) false v L he ht W (At.start h.all (h.inv _ (h.kn (by omega))))) (fun w' q => (h.keep (by omega) (At.chg q)).1)
theorem look_one1 (h : Lk w0 p gs ss x y s M0 i px M W) (hn : i < s.n) {v : Int} {L : List Int} (he : (ss ((s.at_ + i) % s.n)).L = v :: L) (ht : M.time < 4611686018427387890) {V : World} (hV : stOne W p (gs ((s.at_ + i) % s.n)) px M (ss ((s.at_ + i) % s.n)) false v L 1 V) :
    Calls Try.prog 61 #[pt y] V fun e W' => e = .returned (.bool false) ∧ stOne W p (gs ((s.at_ + i) % s.n)) px M (ss ((s.at_ + i) % s.n)) false v L 2 W' :=
  step_false V y x ⟨px, i, 0, false⟩ _ (h.keep (by omega) (At.chg hV)).1 rfl (one1 W p (gs ((s.at_ + i) % s.n)) px M (ss ((s.at_ + i) % s.n)) false v L he ht V hV) (fun w' q => (h.keep (by omega) (At.chg q)).1)
def upd (ss : Nat → LR) (k : Nat) (t : LR) : Nat → LR := fun j => if j = k then t else ss j
theorem upd_same (ss : Nat → LR) (k : Nat) (t : LR) : upd ss k t k = t := by unfold upd; rw [if_pos rfl]
theorem upd_far (ss : Nat → LR) {k j : Nat} (t : LR) (h : j ≠ k) : upd ss k t j = ss j := by unfold upd; rw [if_neg h]
theorem upd_ap {n : Nat} {ss : Nat → LR} {k : Nat} {t : LR} (h : ∀ i j, i < n → j < n → i ≠ j → Apart (ss i) (ss j)) (hb : t.base = (ss k).base) (hs : t.size = (ss k).size) : ∀ i j, i < n → j < n → i ≠ j → Apart (upd ss k t i) (upd ss k t j) := by
  intro i j hi hj hne
  have h := h i j hi hj hne
  unfold Apart at h ⊢
  by_cases e : i = k
  · subst e
    rw [upd_same, upd_far ss t (fun q => hne q.symm), hb, hs]; exact h
  · by_cases d : j = k
    · subst d
      rw [upd_same, upd_far ss t e, hb, hs]; exact h
    · rw [upd_far ss t e, upd_far ss t d]; exact h
theorem look_one2 (h : Lk w0 p gs ss x y s M0 i px M W) (hn : i < s.n) (hn2 : s.n ≤ 1000) (h0 : s.at_ < s.n) {v : Int} {L : List Int} (he : (ss ((s.at_ + i) % s.n)).L = v :: L) (ht : M.time < 4611686018427387890) {V : World} (hV : stOne W p (gs ((s.at_ + i) % s.n)) px M (ss ((s.at_ + i) % s.n)) false v L 2 V) :
    Calls Try.prog 61 #[pt y] V fun e W' => e = .returned (.bool true) ∧ ∃ A M', A.ok = true ∧ A.value = v ∧ LFin w0 p gs (upd ss ((s.at_ + i) % s.n) { ss ((s.at_ + i) % s.n) with a := ((ss ((s.at_ + i) % s.n)).a + 1) % (ss ((s.at_ + i) % s.n)).size, cnt := IntKind.u64.wrap ((ss ((s.at_ + i) % s.n)).cnt + 1), L := L }) x y s M0 (i + 3) (((s.at_ + i) % s.n + 1) % s.n) px ⟨px, i, ((s.at_ + i) % s.n : Nat), true⟩ A M' W' := by
  have hS := one2 W p (gs ((s.at_ + i) % s.n)) px M (ss ((s.at_ + i) % s.n)) false v L he ht V hV
  have hkn := h.kn (by omega)
  refine (step_one V y x (gs ((s.at_ + i) % s.n)) ⟨px, i, 0, false⟩ { s with act := pt y } _ (h.keep (by omega) (At.chg hV)).1 rfl hS (fun w' q => ?_) h0 hn hn2).mono fun e W' ⟨he2, w', q, hact, hlane, hc⟩ => ⟨he2, ?_⟩
  · obtain ⟨⟨M', ha, hI, hT, hap⟩, hc⟩ := q
    obtain ⟨k1, k2, k3, k4, k5⟩ := h.keep (by omega) hc
    exact ⟨k1, k2, _, ha.a, rfl⟩
  · obtain ⟨⟨M2, ha, hI, hT, hap⟩, hc2⟩ := q
    obtain ⟨k1, k2, k3, k4, k5⟩ := h.keep (by omega) hc2
    have hbx : ∀ {b t : Nat} {cs : List Value}, Blk w' b cs t → t ≠ 109 → t ≠ 111 → Blk W' b cs t := fun hb h1 h2 => Blk.chg hb hc (by rintro (q | q); exact Blk.ne hb k1 h1 q; exact Blk.ne hb k2 h2 q)
    have hm2 : MemAt 97 W' p M2 := ha.m.chg hc (fun k hk q => by rcases q with q | q; exact ne_mem ha.m k1 (by decide) (by decide) (by decide) (q ▸ hk); exact ne_mem ha.m k2 (by decide) (by decide) (by decide) (q ▸ hk))
    have ht0 := h.t0
    have htm := h.tm
    refine ⟨_, M2, rfl, rfl, hact, rfl, rfl, hlane, ⟨_, hbx ha.a (by decide) (by decide)⟩, ⟨hm2, fun j hj => ?_, fun j hj => ?_, upd_ap h.ap rfl rfl, h.ne⟩, ?_, ?_, by omega, by push_cast; omega, Chg.step k5 hc (fun k hk q => ?_), h.yb, h.pb⟩
    · by_cases e : j = (s.at_ + i) % s.n
      · subst e
        rw [upd_same]; exact hbx ha.r (by decide) (by decide)
      · rw [upd_far ss _ e]; exact hbx (k4 j hj e) (by decide) (by decide)
    · by_cases e : j = (s.at_ + i) % s.n
      · subst e
        rw [upd_same]; exact hI
      · rw [upd_far ss _ e]; exact hap _ (h.ap _ _ hkn hj (fun q => e q.symm)) (h.inv j hj)
    · obtain ⟨cs, hb, hcs⟩ := k3
      exact ⟨cs, hbx hb (by decide) (by decide), hcs⟩
    · show 1 ≤ M.time + 3
      omega
    · rcases q with q | q
      · exact absurd hk (by rw [q]; exact Nat.not_lt.2 h.yb)
      · exact .inr (.inl q)
end
end Go.Proofs.Ytejplbeddcpmeaa.Lane
