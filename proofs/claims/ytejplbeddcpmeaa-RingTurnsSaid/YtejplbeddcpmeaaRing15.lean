/- The world of two that put and take by turns: a ring, acts, rows of them, two arrays; no condition. -/
import Derived.Test.YtejplbeddcpmeaaRing14
import Derived.Test.YtejplbeddcpmeaaRing11
namespace Go.Proofs.Ytejplbeddcpmeaa.Ring
open Go.RowKit Go.Proofs.YtejplbeddcpmeaaW.PrintWords Go.Proofs.Ytejplbeddcpmeaa.Heap Go.Proofs.Ytejplbeddcpmeaa.Mem
set_option linter.unusedVariables false
set_option linter.unusedSimpArgs false

theorem own_chg {w w' : World} {base e n : Nat} {v : Value} {xs : List Value} {S : Nat → Prop} (h : w.ownsRow base e 1 v n xs) (hc : Chg S w w') (hs : ∀ b, v.ownBlock = some b → ¬ S b) : w'.ownsRow base e 1 v n xs := by
  refine ⟨h.1, ?_⟩
  rcases h.2 with h2 | ⟨g, cap, cur, hv, hb, hg, rest⟩
  · exact .inl h2
  · refine .inr ⟨g, cap, cur, hv, hb, ?_, rest⟩
    exact hc.blk hg (hs g (by rw [hv]; rfl))
theorem own_blk {w : World} {base e n : Nat} {v : Value} {xs : List Value} (h : w.ownsRow base e 1 v n xs) {b : Nat} (hv : v.ownBlock = some b) : base ≤ b ∧ ∃ cs, w.heap[b]? = some (.cells cs e (0, 0)) := by
  rcases h.2 with ⟨rfl, _⟩ | ⟨g, cap, cur, rfl, hb, hg, _⟩
  · cases hv
  · obtain rfl : g = b := Option.some.inj hv
    exact ⟨hb, cur, hg⟩
theorem own_lt {w : World} {base e n : Nat} {v : Value} {xs : List Value} (h : w.ownsRow base e 1 v n xs) {b : Nat} (hv : v.ownBlock = some b) : b < w.heap.size := by
  obtain ⟨_, cs, hc⟩ := own_blk h hv
  exact blk_lt hc
theorem own_ne {w : World} {base e n : Nat} {v : Value} {xs : List Value} (h : w.ownsRow base e 1 v n xs) {b : Nat} (hv : v.ownBlock = some b) {k t : Nat} {cs : List Value} (hk : Blk w k cs t) (hne : t ≠ e) : b ≠ k := by
  rintro rfl
  obtain ⟨_, cs', hc⟩ := own_blk h hv
  have := hc.symm.trans hk
  simp only [Option.some.injEq, Obj.cells.injEq] at this
  exact hne this.2.1.symm
theorem own_ne2 {w : World} {base e n base' e' n' : Nat} {v v' : Value} {xs xs' : List Value} (h : w.ownsRow base e 1 v n xs) (h' : w.ownsRow base' e' 1 v' n' xs') (hne : e ≠ e') {b : Nat} (hv : v.ownBlock = some b) : v'.ownBlock ≠ some b := by
  intro hv'
  obtain ⟨_, cs, hc⟩ := own_blk h hv
  obtain ⟨_, cs', hc'⟩ := own_blk h' hv'
  have := hc.symm.trans hc'
  simp only [Option.some.injEq, Obj.cells.injEq] at this
  exact hne this.2.1
theorem own_slice {w : World} {base e n : Nat} {v : Value} {xs : List Value} (h : w.ownsRow base e 1 v n xs) : ∃ A c, v = .slice A n c := by
  rcases h.2 with ⟨rfl, rfl⟩ | ⟨g, cap, cur, rfl, _⟩
  · exact ⟨none, 0, rfl⟩
  · exact ⟨_, _, rfl⟩
theorem own_cell {w : World} {base e n c : Nat} {A : Option Addr} {xs : List Value} (h : w.ownsRow base e 1 (.slice A n c) n xs) {i : Nat} (hi : i < n) : ∃ b, A = some ⟨b, 0, none⟩ ∧ w.cell? ⟨b, i, none⟩ = xs[i]? := by
  rcases h.2 with ⟨_, rfl⟩ | ⟨g, cap, cur, hv, hb, hg, hn, hm, hs, ht⟩
  · omega
  · simp only [Value.slice.injEq] at hv
    refine ⟨g, hv.1, ?_⟩
    rw [blk_cell hg i, ← ht, List.getElem?_take, if_pos (by omega)]
    simp
theorem grown_chg {w w1 : World} {r : Option Nat} (h : w.grownBy w1 r) : Chg (fun k => r = some k) w w1 := ⟨h.os, h.tape, h.output, h.size, fun k hk hn => h.block k hk (fun e => hn e.symm)⟩

/-- All that stands in the world but the two input rows. -/
structure TW (w0 w : World) (p : Mp) (g B : Nat) (M : MemS) (s : LR) (ib ob : Bool) (xs ys : List Nat) (As : List ActS) (v12 v13 v14 : Value) (ps fs : List Int) (sb nb : Nat) (st0 st1 n0 n1 : Int) : Prop where
  m : MemAt 97 w p M
  r : RingAt w g p (s.ring ib ob)
  i : s.Inv M
  le : xs.length = As.length
  a : ∀ (i : Nat) (x : Nat) (A : ActS), xs[i]? = some x → As[i]? = some A → ActAt w x g A ∧ B ≤ x ∧ 0 ≤ A.value ∧ A.value ≤ 18446744073709551615
  nd : ∀ (i j : Nat) (x : Nat), xs[i]? = some x → xs[j]? = some x → i = j
  o12 : w.ownsRow B 56 1 v12 ys.length (ys.map pt)
  o13 : w.ownsRow B 3 1 v13 ps.length (nums .i64 ps)
  o14 : w.ownsRow B 3 1 v14 fs.length (nums .i64 fs)
  ne : ∀ b, v13.ownBlock = some b → v14.ownBlock ≠ some b
  hs : Blk w sb [.int .i64 st0, .int .i64 st1] 51
  hn : Blk w nb [.int .i64 n0, .int .i64 n1] 51
  sn : sb ≠ nb
  pl : ∀ k, p.has k → w0.heap.size ≤ k ∧ k < B
  gl : w0.heap.size ≤ g ∧ g < B
  sl : w0.heap.size ≤ sb ∧ w0.heap.size ≤ nb
  b0 : w0.heap.size ≤ B
  bs : B ≤ w.heap.size
  bel : Below w0.heap.size w0 w

section
variable {w0 w w' : World} {p : Mp} {g B : Nat} {M M' : MemS} {s s' : LR} {ib ob ib' ob' : Bool} {xs ys : List Nat} {As : List ActS} {v12 v13 v14 : Value} {ps fs : List Int} {sb nb : Nat} {st0 st1 n0 n1 : Int}

theorem TW.drewN (h : TW w0 w p g B M s ib ob xs ys As v12 v13 v14 ps fs sb nb st0 st1 n0 n1) (n : Nat) : TW w0 (w.drewN n) p g B M s ib ob xs ys As v12 v13 v14 ps fs sb nb st0 st1 n0 n1 :=
  { h with m := h.m.drewN n, bel := pw_below_drewN h.bel n }
theorem TW.drew (h : TW w0 w p g B M s ib ob xs ys As v12 v13 v14 ps fs sb nb st0 st1 n0 n1) : TW w0 w.drew p g B M s ib ob xs ys As v12 v13 v14 ps fs sb nb st0 st1 n0 n1 :=
  { h with m := h.m.drew, bel := below_drew1 h.bel }
theorem TW.below (h : TW w0 w p g B M s ib ob xs ys As v12 v13 v14 ps fs sb nb st0 st1 n0 n1) (hb : Below w.heap.size w w') : TW w0 w' p g B M s ib ob xs ys As v12 v13 v14 ps fs sb nb st0 st1 n0 n1 :=
  { h with m := h.m.chg (S := fun _ => False) (Chg.of_below hb) (fun _ _ => id), r := Blk.below h.r hb, a := fun i x A hx hA => ⟨Blk.below (h.a i x A hx hA).1 hb, (h.a i x A hx hA).2⟩, o12 := pw_own_below h.o12 hb, o13 := pw_own_below h.o13 hb, o14 := pw_own_below h.o14 hb, hs := Blk.below h.hs hb, hn := Blk.below h.hn hb, bs := Nat.le_trans h.bs hb.size, bel := below_step h.bel hb }
/-- One of the ring's ends, an act, the memory have changed. -/
theorem TW.ring1 (h : TW w0 w p g B M s ib ob xs ys As v12 v13 v14 ps fs sb nb st0 st1 n0 n1) {x : Nat} {A : ActS} (ha : All w' p g x M (s.ring ib' ob') A) (hc : Chg (fun k => k = g) w w') (hx : w.heap.size ≤ x) :
    TW w0 w' p g B M s ib' ob' (xs ++ [x]) ys (As ++ [A]) v12 v13 v14 ps fs sb nb st0 st1 n0 n1 := by
  have hg := h.gl
  refine { h with m := ha.m, r := ha.r, le := by simp [h.le], a := ?_, nd := ?_, o12 := own_chg h.o12 hc (fun b hb e => ?_), o13 := own_chg h.o13 hc (fun b hb e => ?_), o14 := own_chg h.o14 hc (fun b hb e => ?_), hs := Blk.ring1 h.hs h.r hc (by decide), hn := Blk.ring1 h.hn h.r hc (by decide), bs := Nat.le_trans h.bs hc.size, bel := below_chg h.bel hc h.bel.size (fun k e => e ▸ hg.1) }
  · intro i y C hy hC
    rcases app_get hy with ⟨e1, e2⟩ | ⟨_, hy2⟩
    · rcases app_get hC with ⟨_, e4⟩ | ⟨hlt, _⟩
      · subst e2; subst e4; exact ⟨ha.a, Nat.le_trans h.bs hx, ha.av⟩
      · have := h.le; omega
    · rcases app_get hC with ⟨e3, _⟩ | ⟨_, hC2⟩
      · have := h.le; omega
      · have := h.a i y C hy2 hC2
        exact ⟨Blk.ring1 this.1 h.r hc (by decide), this.2⟩
  · intro i j y hi hj
    have hlt : ∀ k, xs[k]? = some y → y < w.heap.size := fun k hk => by
      obtain ⟨C, hC⟩ : ∃ C, As[k]? = some C := ⟨_, List.getElem?_eq_getElem (by have := h.le; have := (List.getElem?_eq_some_iff.1 hk).1; omega)⟩
      exact Blk.lt (h.a k y C hk hC).1
    rcases app_get hi with ⟨e1, e2⟩ | ⟨_, hi2⟩ <;> rcases app_get hj with ⟨e3, e4⟩ | ⟨_, hj2⟩
    · omega
    · have := hlt j hj2; omega
    · have := hlt i hi2; omega
    · exact h.nd i j y hi2 hj2
  · have := (own_blk h.o12 hb).1; omega
  · have := (own_blk h.o13 hb).1; omega
  · have := (own_blk h.o14 hb).1; omega
/-- A step was made. -/
theorem TW.step (h : TW w0 w p g B M s ib ob xs ys As v12 v13 v14 ps fs sb nb st0 st1 n0 n1) {d x : Nat} {A A' : ActS} (hx : xs[d]? = some x) (hA : As[d]? = some A) (ha : All w' p g x M' (s'.ring ib' ob') A') (hi : s'.Inv M') (hc : Chg (Mra p g x) w w') :
    TW w0 w' p g B M' s' ib' ob' xs ys (As.set d A') v12 v13 v14 ps fs sb nb st0 st1 n0 n1 := by
  have hg := h.gl
  have hax := h.a d x A hx hA
  have hlt : d < As.length := (List.getElem?_eq_some_iff.1 hA).1
  have hall : All w p g x M (s.ring ib ob) A := ⟨h.m, h.r, hax.1, ring_ok h.i _ _, hax.2.2⟩
  have ho : ∀ (e : Nat) (v : Value) (n : Nat) (cs : List Value), w.ownsRow B e 1 v n cs → e ≠ 107 → ∀ b, v.ownBlock = some b → ¬ Mra p g x b := by
    intro e v n cs ho he b hb hm
    have h1 := (own_blk ho hb).1
    rcases hm with hm | hm | hm
    · have := (h.pl b hm).2; omega
    · omega
    · exact own_ne ho hb hax.1 (Ne.symm he) hm
  refine { h with m := ha.m, r := ha.r, i := hi, le := by simp [h.le], a := ?_, o12 := own_chg h.o12 hc (ho _ _ _ _ h.o12 (by decide)), o13 := own_chg h.o13 hc (ho _ _ _ _ h.o13 (by decide)), o14 := own_chg h.o14 hc (ho _ _ _ _ h.o14 (by decide)), hs := Blk.mra h.hs hall hc (by decide) (by decide) (by decide) (by decide) (by decide), hn := Blk.mra h.hn hall hc (by decide) (by decide) (by decide) (by decide) (by decide), bs := Nat.le_trans h.bs hc.size, bel := below_chg h.bel hc h.bel.size ?_ }
  · intro i y C hy hC
    rcases set_get hC hlt with ⟨e1, e2⟩ | ⟨hne, hC2⟩
    · subst e1; subst e2
      obtain rfl := Option.some.inj (hx.symm.trans hy)
      exact ⟨ha.a, hax.2.1, ha.av⟩
    · have := h.a i y C hy hC2
      refine ⟨this.1.chg hc (ne_mem h.m this.1 (by decide) (by decide) (by decide)) (fun e => by have := this.2.1; omega) (fun e => hne ?_), this.2⟩
      exact h.nd i d x (e ▸ hy) hx
  · intro k hk
    rcases hk with hk | hk | hk
    · exact (h.pl k hk).1
    · rw [hk]; exact hg.1
    · have := hax.2.1; have := h.b0; omega
/-- The arrays. -/
theorem TW.setS (h : TW w0 w p g B M s ib ob xs ys As v12 v13 v14 ps fs sb nb st0 st1 n0 n1) (i : Nat) (u : Value) {a b : Int} (e : [Value.int .i64 st0, .int .i64 st1].set i u = [.int .i64 a, .int .i64 b]) :
    TW w0 (w.setCell ⟨sb, i, none⟩ u) p g B M s ib ob xs ys As v12 v13 v14 ps fs sb nb a b n0 n1 := by
  have hc : Chg (fun k => k = sb) w (w.setCell ⟨sb, i, none⟩ u) := (Chg.refl (fun k => k = sb) w).set (.inl rfl) _
  refine { h with m := h.m.chg hc (fun k hk e => ?_), r := Blk.chg h.r hc (Blk.ne h.r h.hs (by decide)), a := fun i x A hx hA => ⟨Blk.chg (h.a i x A hx hA).1 hc (Blk.ne (h.a i x A hx hA).1 h.hs (by decide)), (h.a i x A hx hA).2⟩, o12 := own_chg h.o12 hc (fun b hb => own_ne h.o12 hb h.hs (by decide)), o13 := own_chg h.o13 hc (fun b hb => own_ne h.o13 hb h.hs (by decide)), o14 := own_chg h.o14 hc (fun b hb => own_ne h.o14 hb h.hs (by decide)), hs := (Blk.set h.hs i u).eq e, hn := Blk.chg h.hn hc (Ne.symm h.sn), bs := Nat.le_trans h.bs hc.size, bel := below_chg h.bel hc h.bel.size (fun k e => e ▸ h.sl.1) }
  exact absurd (e ▸ hk) (ne_mem h.m h.hs (by decide) (by decide) (by decide))
theorem TW.setN (h : TW w0 w p g B M s ib ob xs ys As v12 v13 v14 ps fs sb nb st0 st1 n0 n1) (i : Nat) (u : Value) {a b : Int} (e : [Value.int .i64 n0, .int .i64 n1].set i u = [.int .i64 a, .int .i64 b]) :
    TW w0 (w.setCell ⟨nb, i, none⟩ u) p g B M s ib ob xs ys As v12 v13 v14 ps fs sb nb st0 st1 a b := by
  have hc : Chg (fun k => k = nb) w (w.setCell ⟨nb, i, none⟩ u) := (Chg.refl (fun k => k = nb) w).set (.inl rfl) _
  refine { h with m := h.m.chg hc (fun k hk e => ?_), r := Blk.chg h.r hc (Blk.ne h.r h.hn (by decide)), a := fun i x A hx hA => ⟨Blk.chg (h.a i x A hx hA).1 hc (Blk.ne (h.a i x A hx hA).1 h.hn (by decide)), (h.a i x A hx hA).2⟩, o12 := own_chg h.o12 hc (fun b hb => own_ne h.o12 hb h.hn (by decide)), o13 := own_chg h.o13 hc (fun b hb => own_ne h.o13 hb h.hn (by decide)), o14 := own_chg h.o14 hc (fun b hb => own_ne h.o14 hb h.hn (by decide)), hn := (Blk.set h.hn i u).eq e, hs := Blk.chg h.hs hc h.sn, bs := Nat.le_trans h.bs hc.size, bel := below_chg h.bel hc h.bel.size (fun k e => e ▸ h.sl.2) }
  exact absurd (e ▸ hk) (ne_mem h.m h.hn (by decide) (by decide) (by decide))
theorem TW.grown (h : TW w0 w p g B M s ib ob xs ys As v12 v13 v14 ps fs sb nb st0 st1 n0 n1) {e n : Nat} {v : Value} {cs : List Value} (ho : w.ownsRow B e 1 v n cs) (he : e = 56 ∨ e = 3) (hg : w.grownBy w' v.ownBlock)
    {ys' : List Nat} {v12' v13' v14' : Value} {ps' fs' : List Int} (o12 : w'.ownsRow B 56 1 v12' ys'.length (ys'.map pt)) (o13 : w'.ownsRow B 3 1 v13' ps'.length (nums .i64 ps')) (o14 : w'.ownsRow B 3 1 v14' fs'.length (nums .i64 fs')) (ne : ∀ b, v13'.ownBlock = some b → v14'.ownBlock ≠ some b) :
    TW w0 w' p g B M s ib ob xs ys' As v12' v13' v14' ps' fs' sb nb st0 st1 n0 n1 := by
  have hc := grown_chg hg
  have hne : ∀ (k t : Nat) (cs : List Value), Blk w k cs t → t ≠ 56 → t ≠ 3 → ¬ v.ownBlock = some k := by
    intro k t cs hk h1 h2 hv
    exact own_ne ho hv hk (by rcases he with rfl | rfl; exact h1; exact h2) rfl
  refine { h with m := h.m.chg hc (fun k hk e => ?_), r := Blk.chg h.r hc (hne _ _ _ h.r (by decide) (by decide)), a := fun i x A hx hA => ⟨Blk.chg (h.a i x A hx hA).1 hc (hne _ _ _ (h.a i x A hx hA).1 (by decide) (by decide)), (h.a i x A hx hA).2⟩, o12 := o12, o13 := o13, o14 := o14, ne := ne, hs := Blk.chg h.hs hc (hne _ _ _ h.hs (by decide) (by decide)), hn := Blk.chg h.hn hc (hne _ _ _ h.hn (by decide) (by decide)), bs := Nat.le_trans h.bs hc.size, bel := below_chg h.bel hc h.bel.size (fun k e => Nat.le_trans h.b0 (own_blk ho e).1) }
  have h1 := (own_blk ho e).1
  have h2 := (h.pl k hk).2
  omega
theorem new_ne {w w1 : World} {v v1 u : Value} {base e n : Nat} {cs : List Value} (hu : w.ownsRow base e 1 u n cs) (hat : v1.ownBlock = v.ownBlock ∨ ∃ b, v1.ownBlock = some b ∧ w.heap.size ≤ b) (hn : ∀ b, v.ownBlock = some b → u.ownBlock ≠ some b) : ∀ b, v1.ownBlock = some b → u.ownBlock ≠ some b := by
  intro b hb hub
  rcases hat with h | ⟨c, h, hc⟩
  · exact hn b (h ▸ hb) hub
  · rw [h] at hb; obtain rfl := Option.some.inj hb
    have := own_lt hu hub; omega
theorem TW.app12 (h : TW w0 w p g B M s ib ob xs ys As v12 v13 v14 ps fs sb nb st0 st1 n0 n1) {v1 : Value} {x : Nat} (ho : w'.ownsRow B 56 1 v1 (ys.length + 1) (ys.map pt ++ [pt x])) (hg : w.grownBy w' v12.ownBlock) :
    TW w0 w' p g B M s ib ob xs (ys ++ [x]) As v1 v13 v14 ps fs sb nb st0 st1 n0 n1 :=
  h.grown h.o12 (.inl rfl) hg (by simpa using ho) (own_chg h.o13 (grown_chg hg) (fun b hb => own_ne2 h.o13 h.o12 (by decide) hb)) (own_chg h.o14 (grown_chg hg) (fun b hb => own_ne2 h.o14 h.o12 (by decide) hb)) h.ne
theorem TW.app13 (h : TW w0 w p g B M s ib ob xs ys As v12 v13 v14 ps fs sb nb st0 st1 n0 n1) {v1 : Value} {q : Int} (ho : w'.ownsRow B 3 1 v1 (ps.length + 1) (nums .i64 ps ++ [.int .i64 q])) (hg : w.grownBy w' v13.ownBlock) (hat : v1.ownBlock = v13.ownBlock ∨ ∃ b, v1.ownBlock = some b ∧ w.heap.size ≤ b) :
    TW w0 w' p g B M s ib ob xs ys As v12 v1 v14 (ps ++ [q]) fs sb nb st0 st1 n0 n1 :=
  h.grown h.o13 (.inr rfl) hg (own_chg h.o12 (grown_chg hg) (fun b hb => own_ne2 h.o12 h.o13 (by decide) hb)) (by simpa [nums] using ho) (own_chg h.o14 (grown_chg hg) (fun b hb e => h.ne b e hb)) (new_ne (w1 := w') h.o14 hat h.ne)
theorem TW.app14 (h : TW w0 w p g B M s ib ob xs ys As v12 v13 v14 ps fs sb nb st0 st1 n0 n1) {v1 : Value} {q : Int} (ho : w'.ownsRow B 3 1 v1 (fs.length + 1) (nums .i64 fs ++ [.int .i64 q])) (hg : w.grownBy w' v14.ownBlock) (hat : v1.ownBlock = v14.ownBlock ∨ ∃ b, v1.ownBlock = some b ∧ w.heap.size ≤ b) :
    TW w0 w' p g B M s ib ob xs ys As v12 v13 v1 ps (fs ++ [q]) sb nb st0 st1 n0 n1 :=
  h.grown h.o14 (.inr rfl) hg (own_chg h.o12 (grown_chg hg) (fun b hb => own_ne2 h.o12 h.o14 (by decide) hb)) (own_chg h.o13 (grown_chg hg) (fun b hb => h.ne b hb)) (by simpa [nums] using ho) (fun b hb hb1 => new_ne (w1 := w') h.o13 hat (fun c hc hc1 => h.ne c hc1 hc) b hb1 hb)
end

end Go.Proofs.Ytejplbeddcpmeaa.Ring
