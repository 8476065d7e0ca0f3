/- The program's lane and the reference's, side by side. -/
import Derived.Test.YtejplbeddcpmeaaLane15
namespace Go.Proofs.Ytejplbeddcpmeaa.Lane
open Go.RowKit Go.Proofs.YtejplbeddcpmeaaW.PrintWords Go.Proofs.Ytejplbeddcpmeaa.Heap Go.Proofs.Ytejplbeddcpmeaa.Mem Go.Proofs.Ytejplbeddcpmeaa.Ring
set_option linter.unusedVariables false
set_option linter.unusedSimpArgs false

theorem Blk.ty {w : World} {g t t' : Nat} {cs cs' : List Value} (h : Blk w g cs t) (h' : Blk w g cs' t') : t = t' := by
  rcases Nat.decEq t t' with q | q
  · exact absurd rfl (Blk.ne h h' q)
  · exact q
theorem RS.no {B : Nat} {w : World} {k t : Nat} {cs : List Value} (hb : Blk w k cs t) (h1 : t ≠ 80) (h2 : t ≠ 44) (h3 : t ≠ 29) : ¬ RS B w k := by
  rintro ⟨_, cs', t', hb', q⟩
  have e := Blk.ty hb hb'
  subst e
  rcases q with q | q | q
  · exact h1 q
  · exact h2 q
  · exact h3 q
section
variable {w w' : World} {u : Nat} {p : Mp} {b2 c2 x : Nat} {gs : Nat → Nat} {s : LaneS} {k T B : Nat} {Ls : Nat → List Int}
theorem LL.rs (h : LL w u p b2 c2 x gs s k T Ls) (hp : ∀ j, p.has j → j < B) (hc : Chg (RS B w) w w') : LL w' u p b2 c2 x gs s k T Ls := by
  obtain ⟨ss, M, hl, hL, hM⟩ := h.ex
  have rowb : ∀ {b n : Nat} {gs : Nat → Nat}, Row w b n gs → Row w' b n gs := fun hr => by obtain ⟨cs, hb, hr⟩ := hr; exact ⟨cs, Blk.chg hb hc (RS.no hb (by decide) (by decide) (by decide)), hr⟩
  refine ⟨ss, M, ⟨Blk.chg hl.wd hc (RS.no hl.wd (by decide) (by decide) (by decide)), rowb hl.row2, Blk.chg hl.lane hc (RS.no hl.lane (by decide) (by decide) (by decide)), rowb hl.row, ⟨MemAt.chg hl.rings.m hc (fun j hj q => by have := hp j hj; have := q.1; omega), fun i hi => Blk.chg (hl.rings.r i hi) hc (RS.no (hl.rings.r i hi) (by decide) (by decide) (by decide)), hl.rings.inv, hl.rings.ap, hl.rings.ne⟩, ?_, hl.at0, hl.n2⟩, hL, hM⟩
  rcases hl.act with q | ⟨y, x', a, q, ha, ho⟩
  · exact .inl q
  · exact .inr ⟨y, x', a, q, Blk.chg ha hc (RS.no ha (by decide) (by decide) (by decide)), ho⟩
theorem LL.fr (h : LL w u p b2 c2 x gs s k T Ls) (hp : ∀ j, p.has j → j < B) (hc : Chg (LT p x s.n gs) w w') : Fr B w w' := by
  obtain ⟨ss, M, hl, hL, hM⟩ := h.ex
  intro j t cs hb hj h1 h2
  refine Blk.chg hb hc ?_
  rintro (q | q | ⟨i, hi, q⟩)
  · have := hp j q; omega
  · exact Blk.ne hb hl.lane h2 q
  · exact Blk.ne hb (hl.rings.r i hi) h1 q
theorem LL.len_le (h : LL w u p b2 c2 x gs s k T Ls) : ∀ i, i < s.n → (Ls i).length ≤ k := by
  obtain ⟨ss, M, hl, hL, hM⟩ := h.ex
  intro i hi
  have h1 := (hl.rings.inv i hi).len
  obtain ⟨h2, h3⟩ := hL i hi
  unfold LR.len at h1
  rw [h2, h3] at h1
  omega
end
theorem ActSt.rs {w w' : World} {B y : Nat} {ok : Bool} {v fr : Int} (h : ActSt w y ok v fr) (hc : Chg (RS B w) w w') : ActSt w' y ok v fr :=
  h.chg hc (fun hb ht => by rcases ht with q | q <;> (subst q; exact RS.no hb (by decide) (by decide) (by decide)))

theorem rowb {w w' : World} (hb : Below w.heap.size w w') {b n : Nat} {gs : Nat → Nat} (hr : Row w b n gs) : Row w' b n gs := by
  obtain ⟨cs, hc, hr⟩ := hr
  exact ⟨cs, Blk.below hc hb, hr⟩
/-- Both lanes: the program's lists and cursor, the reference's. -/
structure LC (w0 w : World) (u n k T at_ : Nat) (Ls : Nat → List Int) (rat : Nat) (Rs : Nat → List Int) (B z b : Nat) : Prop where
  ex : ∃ p b2 c2 x gs s, LL w u p b2 c2 x gs s k T Ls ∧ s.n = n ∧ s.at_ = at_ ∧ w0.heap.size ≤ u ∧ w0.heap.size ≤ x ∧ (∀ j, p.has j → w0.heap.size ≤ j) ∧ (∀ j, j < n → w0.heap.size ≤ gs j) ∧ (∀ j, p.has j → j < B)
  rf : ∃ vs, RefAt w B z b n rat vs Rs
  below : Below w0.heap.size w0 w
  lo : w0.heap.size ≤ B
  hi : B ≤ w.heap.size
section
variable {w0 w w' : World} {u n k T at_ rat B z b : Nat} {Ls Rs : Nat → List Int}
theorem LC.lb (h : LC w0 w u n k T at_ Ls rat Rs B z b) : LB w0 w u n k T at_ Ls := by
  obtain ⟨p, b2, c2, x, gs, s, h1, h2, h3, h4, h5, h6, h7, _⟩ := h.ex
  exact ⟨⟨p, b2, c2, x, gs, s, h1, h2, h3, h4, h5, h6, h7⟩, h.below⟩
theorem LC.make (h : LB w0 w u n k T at_ Ls) (hb : Below w.heap.size w w') (hr : ∃ vs, RefAt w' w.heap.size z b n rat vs Rs) : LC w0 w' u n k T at_ Ls rat Rs w.heap.size z b := by
  have h' := h.more hb
  obtain ⟨p, b2, c2, x, gs, s, ⟨ss, M, hl, hL, hT⟩, h1, h2, h5, h6, h7, h8⟩ := h.ex
  refine ⟨⟨p, b2, c2, x, gs, s, ⟨ss, M, ⟨Blk.below hl.wd hb, rowb hb hl.row2, Blk.below hl.lane hb, rowb hb hl.row, ⟨MemAt.below hl.rings.m hb, fun i hi => RingAt.below (hl.rings.r i hi) hb, hl.rings.inv, hl.rings.ap, hl.rings.ne⟩, ?_, hl.at0, hl.n2⟩, hL, hT⟩, h1, h2, h5, h6, h7, h8, ?_⟩, hr, h'.below, h.below.size, hb.size⟩
  · rcases hl.act with q | ⟨y, x', a, q, ha, ho⟩
    · exact .inl q
    · exact .inr ⟨y, x', a, q, Blk.below ha hb, ho⟩
  · rintro j (q | q | q)
    · rw [q]; exact hl.rings.m.top.lt
    · rw [q]; exact hl.rings.m.cells.lt
    · rw [q]; exact hl.rings.m.locks.lt
theorem LC.rs (h : LC w0 w u n k T at_ Ls rat Rs B z b) (hc : Chg (RS B w) w w') {rat2 : Nat} {Rs2 : Nat → List Int} (hr : ∃ vs, RefAt w' B z b n rat2 vs Rs2) : LC w0 w' u n k T at_ Ls rat2 Rs2 B z b := by
  obtain ⟨p, b2, c2, x, gs, s, h1, h2, h3, h4, h5, h6, h7, h8⟩ := h.ex
  exact ⟨⟨p, b2, c2, x, gs, s, LL.rs h1 h8 hc, h2, h3, h4, h5, h6, h7, h8⟩, hr, below_chg h.below hc h.below.size (fun j q => Nat.le_trans h.lo q.1), h.lo, Nat.le_trans h.hi hc.size⟩
theorem LC.more (h : LC w0 w u n k T at_ Ls rat Rs B z b) (hb : Below w.heap.size w w') : LC w0 w' u n k T at_ Ls rat Rs B z b := by
  obtain ⟨vs, hr⟩ := h.rf
  exact h.rs (Chg.of_below (S := RS B w) hb) ⟨vs, hr.below hb⟩
theorem LC.drew (h : LC w0 w u n k T at_ Ls rat Rs B z b) : LC w0 w.drew u n k T at_ Ls rat Rs B z b := h.more (below_drew1 (Below.refl _ _))
theorem LC.drewN (h : LC w0 w u n k T at_ Ls rat Rs B z b) (m : Nat) : LC w0 (w.drewN m) u n k T at_ Ls rat Rs B z b := h.more (pw_below_drewN (Below.refl _ _) m)
theorem LC.len_le (h : LC w0 w u n k T at_ Ls rat Rs B z b) : ∀ i, i < n → (Ls i).length ≤ k := by
  obtain ⟨p, b2, c2, x, gs, s, h1, h2, _⟩ := h.ex
  rw [← h2]; exact LL.len_le h1
theorem LC.at_lt (h : LC w0 w u n k T at_ Ls rat Rs B z b) : at_ < n := h.lb.at_lt
theorem LC.put_ (h : LC w0 w u n k T at_ Ls rat Rs B z b) (ht : T ≤ 1000000000) (i : Nat) (hi : i < n) (v : Int) (hv : 0 ≤ v ∧ v ≤ 18446744073709551615) :
    Calls Try.prog 57 #[pt u, .int .i64 (i : Int), .int .u64 v] w fun e w' => e = .returned (.bool (decide ((Ls i).length < k))) ∧ LC w0 w' u n k (T + 3) at_ (putL Ls k i v) rat Rs B z b := by
  obtain ⟨p, b2, c2, x, gs, s, hl, h1, h2, h5, h6, h7, h8, h9⟩ := h.ex
  obtain ⟨vs, hr⟩ := h.rf
  refine (LL.put_ hl ht i (by omega) v hv).mono fun e w' ⟨he, hl', hc⟩ => ⟨he, ⟨p, b2, c2, x, gs, s, hl', h1, h2, h5, h6, h7, h8, h9⟩, ⟨vs, hr.fr (LL.fr hl h9 hc)⟩, below_chg h.below hc h.below.size (fun j q => LT.own h7 h6 (by rw [h1]; exact h8) q), h.lo, Nat.le_trans h.hi hc.size⟩
theorem LC.take_ (h : LC w0 w u n k T at_ Ls rat Rs B z b) (ht : T ≤ 1000000000) :
    Calls Try.prog 51 #[pt u] w fun e w' => ∃ y at2 Ls2, e = .returned (pt y) ∧ LC w0 w' u n k (T + 1002) at2 Ls2 rat Rs B z b ∧ TookL w' n at_ Ls y at2 Ls2 := by
  obtain ⟨p, b2, c2, x, gs, s, hl, h1, h2, h5, h6, h7, h8, h9⟩ := h.ex
  obtain ⟨vs, hr⟩ := h.rf
  refine (LL.take_ hl ht).mono fun e w' ⟨y, at2, Ls2, he, hl', ht, hc⟩ => ⟨y, at2, Ls2, he, ⟨⟨p, b2, c2, x, gs, _, hl', h1, rfl, h5, h6, h7, h8, h9⟩, ⟨vs, hr.fr (LL.fr hl h9 hc)⟩, below_chg h.below hc h.below.size (fun j q => LT.own h7 h6 (by rw [h1]; exact h8) q), h.lo, Nat.le_trans h.hi hc.size⟩, by rw [← h1, ← h2]; exact ht⟩
theorem LC.take0 (h : LC w0 w u n k T at_ Ls rat Rs B z b) (ht : T ≤ 1000000000) (hx : nx Ls n at_ n 0 = none) :
    Calls Try.prog 51 #[pt u] w fun e w' => ∃ y, e = .returned (pt y) ∧ LC w0 w' u n k (T + 1002) at_ Ls rat Rs B z b ∧ ActSt w' y false 0 0 :=
  (h.take_ ht).mono fun e w' ⟨y, at2, Ls2, he, hl, hk⟩ => by
    unfold TookL at hk
    rw [hx] at hk
    obtain ⟨h1, rfl, rfl⟩ := hk
    exact ⟨y, he, hl, h1⟩
theorem LC.take1 (h : LC w0 w u n k T at_ Ls rat Rs B z b) (ht : T ≤ 1000000000) {r : Nat} {v : Int} {l : List Int} (hx : nx Ls n at_ n 0 = some r) (hv : Ls r = v :: l) :
    Calls Try.prog 51 #[pt u] w fun e w' => ∃ y, e = .returned (pt y) ∧ LC w0 w' u n k (T + 1002) ((r + 1) % n) (updL Ls r l) rat Rs B z b ∧ ActSt w' y true v (r : Nat) :=
  (h.take_ ht).mono fun e w' ⟨y, at2, Ls2, he, hl, hk⟩ => by
    unfold TookL at hk
    rw [hx] at hk
    obtain ⟨v', l', h0, h1, rfl, rfl, _⟩ := hk
    rw [hv] at h0
    injection h0 with e1 e2
    subst e1 e2
    exact ⟨y, he, hl, h1⟩
theorem nx_some_r {Ls : Nat → List Int} {n at_ r : Nat} (h0 : 0 < n) (h : nx Ls n at_ n 0 = some r) : r < n ∧ ∃ v l, Ls r = v :: l := by
  have h1 := nx_spec (Ls := Ls) (n := n) (at_ := at_) n 0
  rw [h] at h1
  obtain ⟨m, _, _, h2, _⟩ := h1
  refine ⟨by rw [h2]; exact Nat.mod_lt _ h0, ?_⟩
  rcases q : Ls r with _ | ⟨v, l⟩
  · exfalso
    have : ∀ f j, nx Ls n at_ f j = some r → Ls r ≠ [] := by
      intro f
      induction f with
      | zero => intro j hj; simp [nx] at hj
      | succ f ih =>
        intro j hj
        simp only [nx] at hj
        by_cases c : Ls ((at_ + j) % n) = []
        · rw [if_pos c] at hj; exact ih _ hj
        · rw [if_neg c] at hj; injection hj with hj; rw [← hj]; exact c
    exact this n 0 h q
  · exact ⟨v, l, rfl⟩
theorem LC.next0 {T' at2 : Nat} {Ls2 : Nat → List Int} (h : LC w0 w u n k T' at2 Ls2 rat Rs B z b) (h0 : rat < n) (hn : n ≤ 1000) (hx : nx Rs n rat n 0 = none) :
    Calls Try.prog 52 #[pt z] w fun e w' => e = .returned (.tuple #[.int .u64 0, .int .i64 (-1)]) ∧ LC w0 w' u n k T' at2 Ls2 rat Rs B z b ∧ Chg (RS B w) w w' := by
  obtain ⟨vs, hr⟩ := h.rf
  refine (rnext_none w B z b n rat vs Rs hr (by omega) hn h0 ?_).mono fun e w' ⟨he, hb⟩ => ⟨he, h.more hb, Chg.of_below (S := RS B w) hb⟩
  have h1 := nx_spec (Ls := Rs) (n := n) (at_ := rat) n 0
  rw [hx] at h1
  exact fun j hj => h1 j (Nat.zero_le _) (by omega)
theorem LC.next1 {T' at2 : Nat} {Ls2 : Nat → List Int} (h : LC w0 w u n k T' at2 Ls2 rat Rs B z b) (h0 : rat < n) (hn : n ≤ 1000) {r : Nat} {v : Int} {l : List Int} (hx : nx Rs n rat n 0 = some r) (hv : Rs r = v :: l) (hl : l.length ≤ 1000) :
    Calls Try.prog 52 #[pt z] w fun e w' => e = .returned (.tuple #[.int .u64 v, .int .i64 (r : Int)]) ∧ LC w0 w' u n k T' at2 Ls2 ((r + 1) % n) (updL Rs r l) B z b ∧ Chg (RS B w) w w' := by
  obtain ⟨vs, hr⟩ := h.rf
  have h1 := nx_spec (Ls := Rs) (n := n) (at_ := rat) n 0
  rw [hx] at h1
  obtain ⟨m, _, hm, h2, h3⟩ := h1
  have hrn : r < n := by rw [h2]; exact Nat.mod_lt _ (by omega)
  refine (rnext_one w B z b n rat vs Rs hr h.hi (by omega) hn h0 m (by omega) (fun j hj => h3 j (Nat.zero_le _) hj) r h2.symm v l hv hl).mono fun e w' ⟨he, w1, v1, hb, ho, hw⟩ => ?_
  obtain ⟨cs, hbk, _⟩ := hr.out
  have hc : Chg (RS B w) w w' := by
    rw [hw]
    exact ((Chg.of_below (S := RS B w) hb).set (.inl ⟨hr.bb, cs, _, hbk, .inr (.inl rfl)⟩) _).set (.inl ⟨hr.zb, _, _, hr.top, .inl rfl⟩) _
  have hq := hr.laid (at2 := (r + 1) % n) hb hrn ho h.hi
  rw [← hw] at hq
  exact ⟨he, h.rs hc ⟨_, hq⟩, hc⟩
end
theorem sum_upd {Ls : Nat → List Int} {n r : Nat} {l : List Int} (hr : r < n) : sumLs (updL Ls r l) n = sumLs Ls n + ((l.length : Int) - ((Ls r).length : Int)) := by
  have far : ∀ m, m ≤ r → sumLs (updL Ls r l) m = sumLs Ls m := by
    intro m
    induction m with
    | zero => intro _; rfl
    | succ m ih => intro hm; simp only [sumLs]; rw [ih (by omega)]; unfold updL; rw [if_neg (by omega)]
  induction n with
  | zero => omega
  | succ n ih =>
    by_cases c : r = n
    · subst c
      simp only [sumLs]
      rw [far r (Nat.le_refl _)]
      unfold updL
      rw [if_pos rfl]; omega
    · simp only [sumLs]
      rw [ih (by omega)]
      have : updL Ls r l n = Ls n := by unfold updL; rw [if_neg (fun e => c e.symm)]
      rw [this]; omega
theorem sum_nn (Ls : Nat → List Int) : ∀ n, 0 ≤ sumLs Ls n
  | 0 => by simp [sumLs]
  | n + 1 => by simp only [sumLs]; have := sum_nn Ls n; omega
end Go.Proofs.Ytejplbeddcpmeaa.Lane
