/- The laws' taking to its end (world.take); no condition beyond a bound of the time. -/
import Derived.Test.YtejplbeddcpmeaaLane4
namespace Go.Proofs.Ytejplbeddcpmeaa.Lane
open Go.RowKit Go.Proofs.YtejplbeddcpmeaaW.PrintWords Go.Proofs.Ytejplbeddcpmeaa.Heap Go.Proofs.Ytejplbeddcpmeaa.Mem Go.Proofs.Ytejplbeddcpmeaa.Ring
set_option linter.unusedVariables false
set_option linter.unusedSimpArgs false

def wdCells (p : Mp) (b n c x : Nat) : List Value := [pa p, .slice (some ⟨b, 0, none⟩) n c, pt x]
def WdAt (w : World) (u : Nat) (p : Mp) (b n c x : Nat) : Prop := Blk w u (wdCells p b n c x) 91

set_option maxHeartbeats 4000000 in
set_option maxRecDepth 100000 in
theorem take_run (w : World) (u : Nat) (p : Mp) (b n c x N : Nat) (St : Nat → Nat → World → Prop) (Fin : Nat → World → Prop) (hw : WdAt w u p b n c x) (hN0 : 1 ≤ N) (hN1 : N ≤ 8 * n) (hn : n ≤ 1000)
    (HN : Calls Try.prog 60 #[pt x] w fun e w' => ∃ y, e = .returned (pt y) ∧ St y 0 w') (HU : ∀ y i W, St y i W → WdAt W u p b n c x)
    (HT : ∀ y i W, i + 1 < N → St y i W → Calls Try.prog 61 #[pt y] W fun e w' => e = .returned (.bool false) ∧ St y (i + 1) w')
    (HL : ∀ y W, St y (N - 1) W → Calls Try.prog 61 #[pt y] W fun e w' => e = .returned (.bool true) ∧ Fin y w')
    (HF : ∀ y W, Fin y W → ∃ x' a, LActAt W y x' a ∧ a.over = true) :
    Calls Try.prog 51 #[pt u] w fun e w' => ∃ y, e = .returned (pt y) ∧ Fin y w' := by
  have x2 : w.cell? ⟨u, 2, none⟩ = some (pt x) := (Blk.cell hw 2).trans rfl
  have H1 := Aside0.mk HN
  have H2 := Aside0.mk HU
  have H3 := Aside0.mk HT
  have H4 := Aside0.mk HL
  have H5 := Aside0.mk (show ∀ y W, Fin y W → Calls Try.prog 62 #[pt y] W fun e w' => e = .returned (.bool true) ∧ W = w' from fun y W h => by obtain ⟨x', a, ha, ho⟩ := HF y W h; have := over_ W y x' a ha; rw [ho] at this; exact this)
  have e1 : IntKind.i64.wrap (8 * (n : Int)) = ((8 * n : Nat) : Int) := by rw [i64_id (by omega)]; omega
  clear HN HU HT HL HF hw
  go_enter Try.func51, Try.ntmps51
  go_wp2_with (go_at_call 60; (with_reducible refine H1.out.mono ?_); rintro e w1 ⟨y, rfl, hst⟩; have HS := Aside0.mk hst; clear hst)
  go_loopg [4] N (fun kq v4 wr => ∃ i : Nat, Aside0 (kq = N - i) ∧ i < N ∧ v4 = .int .i64 (i : Int) ∧ Aside0 (St y i wr))
  case atStart => exact ⟨0, ⟨by omega⟩, by omega, rfl, HS⟩
  case round =>
    clear HS
    obtain ⟨i, HKQ, hi, rfl, HS⟩ := hrel
    have HW := Aside0.mk (H2.out y i wr HS.out)
    have x1 : wr.cell? ⟨u, 1, none⟩ = some (.slice (some ⟨b, 0, none⟩) n c) := (Blk.cell HW.out 1).trans rfl
    have hlt : decide ((i : Int) < ((8 * n : Nat) : Int)) = true := decide_eq_true (by omega)
    have hlt2 : i < 8 * n := by omega
    by_cases hlast : i + 1 < N
    · go_wp2_with (go_at_call 61; (with_reducible refine (H3.out y i _ hlast HS.out).mono ?_); rintro e w2 ⟨rfl, hst⟩; have HS2 := Aside0.mk hst; clear hst)
      go_roundg (N - (i + 1))
      case measure => have := HKQ.out; omega
      case rel => exact ⟨i + 1, ⟨rfl⟩, hlast, by simp, HS2⟩
    · obtain rfl : i = N - 1 := by omega
      go_wp2_with (first | (go_at_call 61; (with_reducible refine (H4.out y _ HS.out).mono ?_); rintro e w2 ⟨rfl, hfin⟩; have HFN := Aside0.mk hfin; clear hfin) | (go_at_call 62; (with_reducible refine (H5.out y _ HFN.out).mono ?_); rintro e w3 ⟨rfl, rfl⟩))
      go_ret
      exact ⟨y, rfl, HFN.out⟩

/-- The laws' world: a memory, rings, a lane. -/
structure LW (w : World) (u : Nat) (p : Mp) (b2 c2 x : Nat) (gs : Nat → Nat) (ss : Nat → LR) (s : LaneS) (M : MemS) : Prop where
  wd : WdAt w u p b2 s.n c2 x
  row2 : Row w b2 s.n gs
  lane : LaneAt w x s
  row : Row w s.b s.n gs
  rings : Rings w p s.n gs ss M
  act : s.act = .pointer none ∨ ∃ y x' a, s.act = pt y ∧ LActAt w y x' a ∧ a.over = true
  at0 : s.at_ < s.n
  n2 : s.n ≤ 1000
section
variable {w : World} {u : Nat} {p : Mp} {b2 c2 x : Nat} {gs : Nat → Nat} {ss : Nat → LR} {s : LaneS} {M : MemS}
theorem LW.notLT (h : LW w u p b2 c2 x gs ss s M) {k t : Nat} {cs : List Value} (hb : Blk w k cs t) (h1 : t ≠ 97) (h2 : t ≠ 29) (h3 : t ≠ 3) (h4 : t ≠ 103) (h5 : t ≠ 111) : ¬ LT p x s.n gs k := by
  rintro (q | q | ⟨i, hi, q⟩)
  · exact ne_mem h.rings.m hb h1 h2 h3 q
  · exact Blk.ne hb h.lane h5 q
  · exact Blk.ne hb (h.rings.r i hi) h4 q
theorem LW.stay (h : LW w u p b2 c2 x gs ss s M) {w' : World} (hc : Chg (LT p x s.n gs) w w') : WdAt w' u p b2 s.n c2 x ∧ Row w' b2 s.n gs := by
  refine ⟨Blk.chg h.wd hc (h.notLT h.wd (by decide) (by decide) (by decide) (by decide) (by decide)), ?_⟩
  obtain ⟨cs, hb, hr⟩ := h.row2
  exact ⟨cs, Blk.chg hb hc (h.notLT hb (by decide) (by decide) (by decide) (by decide) (by decide)), hr⟩
theorem LW.over (h : LW w u p b2 c2 x gs ss s M) : Calls Try.prog 62 #[s.act] w fun e w' => e = .returned (.bool true) ∧ w = w' := by
  rcases h.act with q | ⟨y, x', a, q, ha, ho⟩
  · rw [q]; exact over_nil w
  · rw [q]
    have := over_ w y x' a ha
    rw [ho] at this
    exact this
theorem LW.next (h : LW w u p b2 c2 x gs ss s M) : Calls Try.prog 60 #[pt x] w fun e w' => ∃ y, e = .returned (pt y) ∧ ∃ px, Lk w p gs ss x y s M 0 px M w' := by
  have hkn : (s.at_ + 0) % s.n < s.n := Nat.mod_lt _ (by have := h.at0; omega)
  refine (next_ w x p gs s ((s.at_ + 0) % s.n) rfl M ((ss ((s.at_ + 0) % s.n)).ring false false) h.lane h.over h.row h.rings.m (h.rings.r _ hkn) (ring_ok (h.rings.inv _ hkn) false false) rfl h.at0 h.n2).mono fun e w' ⟨y, px, he, hact, hlane, hall, hc, hy, hpx⟩ => ⟨y, he, px, hact, hlane, hall, h.rings.inv, fun j hj hne => ?_, ?_, h.rings.ap, h.rings.ne, h.rings.m.t0, by simp, hc.mono (fun k _ q => ?_), hpx, hy⟩
  · refine Blk.chg (h.rings.r j hj) hc ?_
    rintro (q | q)
    · exact Blk.ne (h.rings.r j hj) h.lane (by decide) q
    · exact h.rings.ne _ _ hj hkn hne q
  · obtain ⟨cs, hb, hr⟩ := h.row
    refine ⟨cs, Blk.chg hb hc ?_, hr⟩
    rintro (q | q)
    · exact Blk.ne hb h.lane (by decide) q
    · exact Blk.ne hb (h.rings.r _ hkn) (by decide) q
  · rcases q with q | q
    · exact .inr (.inl q)
    · exact .inr (.inr ⟨_, hkn, q⟩)
/-- The first number, and where: m rings without any ahead of it; or there is none. -/
theorem first_ne (n at_ : Nat) (ss : Nat → LR) : (∃ m v L, m < n ∧ (∀ j, j < m → (ss ((at_ + j) % n)).L = []) ∧ (ss ((at_ + m) % n)).L = v :: L) ∨ (∀ j, j < n → (ss ((at_ + j) % n)).L = []) := by
  have key : ∀ k, k ≤ n → (∃ m v L, m < k ∧ (∀ j, j < m → (ss ((at_ + j) % n)).L = []) ∧ (ss ((at_ + m) % n)).L = v :: L) ∨ (∀ j, j < k → (ss ((at_ + j) % n)).L = []) := by
    intro k
    induction k with
    | zero => intro _; exact .inr (fun j hj => absurd hj (by omega))
    | succ k ih =>
      intro hk
      rcases ih (by omega) with ⟨m, v, L, h1, h2, h3⟩ | h
      · exact .inl ⟨m, v, L, by omega, h2, h3⟩
      · match hL : (ss ((at_ + k) % n)).L with
        | [] =>
          refine .inr (fun j hj => ?_)
          by_cases e : j = k
          · rw [e]; exact hL
          · exact h j (by omega)
        | v :: L => exact .inl ⟨k, v, L, by omega, h, hL⟩
  exact key n (Nat.le_refl n)
def LR.pop (t : LR) (L : List Int) : LR := { t with a := (t.a + 1) % t.size, cnt := IntKind.u64.wrap (t.cnt + 1), L := L }
/-- What a taking tells, and what is left. -/
inductive Took (n at_ : Nat) (ss : Nat → LR) (a : LAct) (A : ActS) : Nat → (Nat → LR) → Prop
  | one (m : Nat) (v : Int) (L : List Int) : m < n → (∀ j, j < m → (ss ((at_ + j) % n)).L = []) → (ss ((at_ + m) % n)).L = v :: L → A.ok = true → A.value = v → a.from_ = ((at_ + m) % n : Nat) → Took n at_ ss a A (((at_ + m) % n + 1) % n) (upd ss ((at_ + m) % n) (LR.pop (ss ((at_ + m) % n)) L))
  | none_ : (∀ j, j < n → (ss ((at_ + j) % n)).L = []) → A.ok = false → Took n at_ ss a A at_ ss
/-- Behind a taking. -/
structure Taken (w0 : World) (u : Nat) (p : Mp) (b2 c2 x : Nat) (gs : Nat → Nat) (ss : Nat → LR) (s : LaneS) (M : MemS) (y : Nat) (w : World) : Prop where
  ex : ∃ at2 ss' a A g M', LW w u p b2 c2 x gs ss' { s with act := pt y, at_ := at2 } M' ∧ LActAt w y x a ∧ a.over = true ∧ ActAt w a.pop g A ∧ 1 ≤ A.mark ∧ M'.time ≤ M.time + 1002 ∧ w0.heap.size ≤ y ∧ w0.heap.size ≤ a.pop ∧ Took s.n s.at_ ss a A at2 ss'
  chg : Chg (LT p x s.n gs) w0 w
theorem LFin.taken (h : LW w u p b2 c2 x gs ss s M) {ss' : Nat → LR} {y N at2 px : Nat} {a : LAct} {A : ActS} {M' : MemS} {W : World} (hf : LFin w p gs ss' x y s M N at2 px a A M' W) (hN : N ≤ 1002) (h2 : at2 < s.n) (ht : Took s.n s.at_ ss a A at2 ss') : Taken w u p b2 c2 x gs ss s M y W := by
  obtain ⟨g, hg⟩ := hf.pop
  have hap := hf.ap
  subst hap
  obtain ⟨q1, q2⟩ := h.stay hf.chg
  exact ⟨⟨at2, ss', a, A, g, M', ⟨q1, q2, hf.lane, hf.row, hf.rings, .inr ⟨y, x, a, rfl, hf.act, hf.ao⟩, h2, h.n2⟩, hf.act, hf.ao, hg, hf.mrk, by have := hf.tm; omega, hf.yb, hf.pb, ht⟩, hf.chg⟩
set_option maxHeartbeats 1600000 in
theorem take_ (h : LW w u p b2 c2 x gs ss s M) (ht : M.time < 4611686018427380000) :
    Calls Try.prog 51 #[pt u] w fun e w' => ∃ y, e = .returned (pt y) ∧ Taken w u p b2 c2 x gs ss s M y w' := by
  have hn0 := h.at0
  have hn2 := h.n2
  rcases first_ne s.n s.at_ ss with ⟨m, v, L, hm, hE, hL⟩ | hE
  · have hkn : (s.at_ + m) % s.n < s.n := Nat.mod_lt _ (by omega)
    refine take_run w u p b2 s.n c2 x (m + 3) (fun y i W => (i ≤ m ∧ ∃ px M1, Lk w p gs ss x y s M i px M1 W) ∨ (∃ W1 px M1, Lk w p gs ss x y s M m px M1 W1 ∧ ((i = m + 1 ∧ stOne W1 p (gs ((s.at_ + m) % s.n)) px M1 (ss ((s.at_ + m) % s.n)) false v L 1 W) ∨ (i = m + 2 ∧ stOne W1 p (gs ((s.at_ + m) % s.n)) px M1 (ss ((s.at_ + m) % s.n)) false v L 2 W)))) (Taken w u p b2 c2 x gs ss s M) h.wd (by omega) (by omega) hn2 (h.next.mono fun e w' ⟨y, he, px, hl⟩ => ⟨y, he, .inl ⟨by omega, px, M, hl⟩⟩) ?_ ?_ ?_ ?_
    · rintro y i W (⟨_, px, M1, hl⟩ | ⟨W1, px, M1, hl, ⟨_, q⟩ | ⟨_, q⟩⟩)
      · exact (h.stay hl.chg).1
      · exact (h.stay (hl.keep (by omega) (At.chg q)).2.2.2.2).1
      · exact (h.stay (hl.keep (by omega) (At.chg q)).2.2.2.2).1
    · rintro y i W hi (⟨him, px, M1, hl⟩ | ⟨W1, px, M1, hl, ⟨e, q⟩ | ⟨e, q⟩⟩)
      · have htm := hl.tm
        by_cases c : i < m
        · exact (look_next hl (by omega) hn2 hn0 (hE i c) (by omega)).mono fun e w' ⟨he, px', M', hl'⟩ => ⟨he, .inl ⟨by omega, px', M', hl'⟩⟩
        · obtain rfl : i = m := by omega
          exact (look_one0 hl (by omega) hL (by omega)).mono fun e w' ⟨he, q⟩ => ⟨he, .inr ⟨W, px, M1, hl, .inl ⟨rfl, q⟩⟩⟩
      · have htm := hl.tm
        subst e
        exact (look_one1 hl (by omega) hL (by omega) q).mono fun e w' ⟨he, q⟩ => ⟨he, .inr ⟨W1, px, M1, hl, .inr ⟨rfl, q⟩⟩⟩
      · omega
    · rintro y W (⟨him, px, M1, hl⟩ | ⟨W1, px, M1, hl, ⟨e, q⟩ | ⟨e, q⟩⟩)
      · omega
      · omega
      · have htm := hl.tm
        exact (look_one2 hl (by omega) hn2 hn0 hL (by omega) q).mono fun e w' ⟨he, A, M', hk, hv, hf⟩ => ⟨he, hf.taken h (by omega) (Nat.mod_lt _ (by omega)) (.one m v L hm hE hL hk hv rfl)⟩
    · rintro y W ⟨⟨at2, ss', a, A, g, M', hlw, hact, hov, _⟩, _⟩
      exact ⟨x, a, hact, hov⟩
  · refine take_run w u p b2 s.n c2 x s.n (fun y i W => i < s.n ∧ ∃ px M1, Lk w p gs ss x y s M i px M1 W) (Taken w u p b2 c2 x gs ss s M) h.wd (by omega) (by omega) hn2 (h.next.mono fun e w' ⟨y, he, px, hl⟩ => ⟨y, he, by omega, px, M, hl⟩) ?_ ?_ ?_ ?_
    · rintro y i W ⟨_, px, M1, hl⟩
      exact (h.stay hl.chg).1
    · rintro y i W hi ⟨_, px, M1, hl⟩
      have htm := hl.tm
      exact (look_next hl (by omega) hn2 hn0 (hE i (by omega)) (by omega)).mono fun e w' ⟨he, px', M', hl'⟩ => ⟨he, by omega, px', M', hl'⟩
    · rintro y W ⟨hi, px, M1, hl⟩
      have htm := hl.tm
      exact (look_none hl (by omega) hn2 hn0 (hE _ (by omega)) (by omega)).mono fun e w' ⟨he, A, M', hk, hf⟩ => ⟨he, hf.taken h (by omega) hn0 (.none_ hE hk)⟩
    · rintro y W ⟨⟨at2, ss', a, A, g, M', hlw, hact, hov, _⟩, _⟩
      exact ⟨x, a, hact, hov⟩
end
end Go.Proofs.Ytejplbeddcpmeaa.Lane
