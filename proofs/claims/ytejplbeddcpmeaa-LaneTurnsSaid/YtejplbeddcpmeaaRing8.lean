/- The law RingStill: its walk; no condition. -/
import Derived.Test.YtejplbeddcpmeaaRing6
namespace Go.Proofs.Ytejplbeddcpmeaa.Ring
open Go.RowKit Go.Proofs.YtejplbeddcpmeaaW.PrintWords Go.Proofs.Ytejplbeddcpmeaa.Heap Go.Proofs.Ytejplbeddcpmeaa.Mem
set_option linter.unusedVariables false
set_option linter.unusedSimpArgs false

theorem Blk.mra {w w' : World} {b t : Nat} {cs : List Value} {p : Mp} {g x : Nat} {M : MemS} {R : RingS} {A : ActS} (hb : Blk w b cs t) (ha : All w p g x M R A) (hc : Chg (Mra p g x) w w') (h1 : t ≠ 97) (h2 : t ≠ 29) (h3 : t ≠ 3) (h4 : t ≠ 103) (h5 : t ≠ 107) : Blk w' b cs t :=
  Blk.chg hb hc (by
    rintro (k | k | k)
    · exact ne_mem ha.m hb h1 h2 h3 k
    · exact (Blk.ne hb ha.r h4) k
    · exact (Blk.ne hb ha.a h5) k)
theorem Blk.ring1 {w w' : World} {b t g : Nat} {cs : List Value} {p : Mp} {R : RingS} (hb : Blk w b cs t) (hr : RingAt w g p R) (hc : Chg (fun k => k = g) w w') (h4 : t ≠ 103) : Blk w' b cs t := Blk.chg hb hc (fun k => (Blk.ne hb hr h4) k)
theorem Blk.mem1 {w w' : World} {b t : Nat} {cs : List Value} {p : Mp} {M : MemS} (hb : Blk w b cs t) (hm : MemAt 97 w p M) (hc : Chg p.has w w') (h1 : t ≠ 97) (h2 : t ≠ 29) (h3 : t ≠ 3) : Blk w' b cs t := Blk.chg hb hc (ne_mem hm hb h1 h2 h3)
theorem Blk.below {w w' : World} {b t : Nat} {cs : List Value} (hb : Blk w b cs t) (h : Below w.heap.size w w') : Blk w' b cs t := (h.block _ hb.lt).trans hb
theorem step_overd (w : World) (x g : Nat) (A : ActS) (h : ActAt w x g A) (ho : A.over = true) : Calls Try.prog 36 #[pt x] w fun e w' => e = .returned (.bool true) ∧ w = w' := by
  have HA := Aside0.mk h
  have HO := Aside0.mk ho
  clear h ho
  go_enter Try.func36, Try.ntmps36
  go_wp2_with (go_at_call 38; (with_reducible refine (over_ _ x g A HA.out).mono ?_); rintro e w' ⟨rfl, rfl⟩; rw [HO.out])
  go_ret
  exact ⟨rfl, rfl⟩
theorem At.finI {w0 w : World} {p : Mp} {g x : Nat} {M0 : MemS} {s0 s : LR} {ib ob : Bool} {A : ActS} {k : Nat} (h : At w0 p g x M0 s0 s ib ob A k w) : ∃ M, MemAt 97 w p M ∧ RingAt w g p (s.ring ib ob) ∧ ActAt w x g A ∧ s.Inv M ∧ M.time = M0.time + k ∧ Chg (Mra p g x) w0 w := by
  obtain ⟨⟨M, ha, hI, hT, _⟩, hc⟩ := h
  exact ⟨M, ha.m, ha.r, ha.a, hI, hT, hc⟩
/-- Behind an act's end: one round of the law's loops. -/
structure Done (w : World) (p : Mp) (g x : Nat) (M : MemS) (s' : LR) (ib ob ok : Bool) (w' : World) : Prop where
  ex : ∃ M' A, MemAt 97 w' p M' ∧ RingAt w' g p (s'.ring ib ob) ∧ ActAt w' x g A ∧ s'.Inv M' ∧ M'.time ≤ M.time + 3 ∧ A.ok = ok
  chg : Chg (Mra p g x) w w'
theorem pushed (w : World) (p : Mp) (g x : Nat) (M : MemS) (s : LR) (ob : Bool) (v : Int) (h : All w p g x M (s.ring true ob) ⟨true, 74, v, false, 0, false⟩) (hI : s.Inv M) (ht : M.time < 4611686018427387890) :
    Calls Try.prog 32 #[pt x] w fun e w' => e = .returned (.bool true) ∧ Done w p g x M (if s.len < s.size then { s with laid := none, L := s.L ++ [v] } else s) false ob (decide (s.len < s.size)) w' := by
  by_cases hf : s.len < s.size
  · rw [if_pos hf]
    refine (finish_free w p g x M s ob v h hI ht hf).mono fun e w' ⟨he, ha⟩ => ⟨he, ?_⟩
    obtain ⟨M', h1, h2, h3, h4, h5, h6⟩ := At.finI ha
    exact ⟨⟨M', _, h1, h2, h3, h4, by omega, (decide_eq_true hf).symm⟩, h6⟩
  · rw [if_neg hf]
    refine (finish_full w p g x M s ob v h hI ht (by have := hI.len; omega)).mono fun e w' ⟨he, ha⟩ => ⟨he, ?_⟩
    obtain ⟨M', h1, h2, h3, h4, h5, h6⟩ := At.finI ha
    exact ⟨⟨M', _, h1, h2, h3, h4, by omega, (decide_eq_false hf).symm⟩, h6⟩
def LR.popped (s : LR) : LR := match s.L with
  | [] => s
  | _ :: L => { s with a := (s.a + 1) % s.size, cnt := IntKind.u64.wrap (s.cnt + 1), L := L }
theorem popped (w : World) (p : Mp) (g x : Nat) (M : MemS) (s : LR) (ib : Bool) (h : All w p g x M (s.ring ib true) ⟨false, 75, 0, false, 0, false⟩) (hI : s.Inv M) (ht : M.time < 4611686018427387890) :
    Calls Try.prog 32 #[pt x] w fun e w' => e = .returned (.bool true) ∧ Done w p g x M s.popped ib false (decide (0 < s.len)) w' := by
  match hL : s.L with
  | [] =>
    refine (finish_none w p g x M s ib h hI ht hL).mono fun e w' ⟨he, ha⟩ => ⟨he, ?_⟩
    obtain ⟨M', h1, h2, h3, h4, h5, h6⟩ := At.finI ha
    have e1 : s.popped = s := by unfold LR.popped; rw [hL]
    rw [e1]
    exact ⟨⟨M', _, h1, h2, h3, h4, by omega, by simp [LR.len, hL]⟩, h6⟩
  | v :: L =>
    refine (finish_one w p g x M s ib h hI ht v L hL).mono fun e w' ⟨he, ha⟩ => ⟨he, ?_⟩
    obtain ⟨M', h1, h2, h3, h4, h5, h6⟩ := At.finI ha
    have e1 : s.popped = { s with a := (s.a + 1) % s.size, cnt := IntKind.u64.wrap (s.cnt + 1), L := L } := by unfold LR.popped; rw [hL]
    rw [e1]
    exact ⟨⟨M', _, h1, h2, h3, h4, by omega, by simp [LR.len, hL] <;> omega⟩, h6⟩

/-- One stands still: where its act may have come to. -/
structure StillAt (p : Mp) (g x : Nat) (n had d : Int) (T : Int) (push : Bool) (w0 W : World) : Prop where
  ex : ∃ (M : MemS) (s : LR) (A : ActS) (fl : Bool), All W p g x M (if push then s.ring fl false else s.ring false fl) A ∧ s.Inv M ∧ s.size = n ∧ (s.len = had ∨ s.len = had + d) ∧ M.time ≤ T
  chg : Chg (Mra p g x) w0 W
/-- A Step of the one that will stand still: from St k to St (k + 1), at its end no more. -/
structure StillRun (p : Mp) (g x : Nat) (n had d T : Int) (push : Bool) (w0 : World) (St : Nat → World → Prop) (N : Nat) : Prop where
  step : ∀ k W, k < N → St k W → Calls Try.prog 36 #[pt x] W fun e w' => (∃ b, e = .returned (.bool b)) ∧ St (k + 1) w'
  over : ∀ W, St N W → Calls Try.prog 36 #[pt x] W fun e w' => (∃ b, e = .returned (.bool b)) ∧ W = w'
  at_ : ∀ k W, k ≤ N → St k W → StillAt p g x n had d T push w0 W
theorem At.still {w0 w : World} {p : Mp} {g x : Nat} {M0 : MemS} {s0 s : LR} {fl : Bool} {A : ActS} {k : Nat} {n had d T : Int} (h : At w0 p g x M0 s0 s fl false A k w) (hs : s.size = n) (hl : s.len = had ∨ s.len = had + d) (hT : M0.time + k ≤ T) : StillAt p g x n had d T true w0 w := by
  obtain ⟨⟨M, ha, hI, ht, _⟩, hc⟩ := h
  exact ⟨⟨M, s, A, fl, ha, hI, hs, hl, by omega⟩, hc⟩
theorem At.still2 {w0 w : World} {p : Mp} {g x : Nat} {M0 : MemS} {s0 s : LR} {fl : Bool} {A : ActS} {k : Nat} {n had d T : Int} (h : At w0 p g x M0 s0 s false fl A k w) (hs : s.size = n) (hl : s.len = had ∨ s.len = had + d) (hT : M0.time + k ≤ T) : StillAt p g x n had d T false w0 w := by
  obtain ⟨⟨M, ha, hI, ht, _⟩, hc⟩ := h
  exact ⟨⟨M, s, A, fl, ha, hI, hs, hl, by omega⟩, hc⟩
theorem At.stop {w0 w : World} {p : Mp} {g x : Nat} {M0 : MemS} {s0 s : LR} {ib ob : Bool} {A : ActS} {k : Nat} (h : At w0 p g x M0 s0 s ib ob A k w) (ho : A.over = true) : Calls Try.prog 36 #[pt x] w fun e w' => (∃ b, e = .returned (.bool b)) ∧ w = w' := by
  obtain ⟨⟨M, ha, _⟩, _⟩ := h
  exact (step_overd w x g A ha.a ho).mono fun _ _ ⟨a, b⟩ => ⟨⟨_, a⟩, b⟩
theorem run_push (w : World) (p : Mp) (g x : Nat) (M : MemS) (s : LR) (v : Int) (h : All w p g x M (s.ring true false) ⟨true, 74, v, false, 0, false⟩) (hI : s.Inv M) (ht : M.time < 4611686018427387890) :
    ∃ St N, St 0 w ∧ StillRun p g x s.size s.len 1 (M.time + 3) true w St N := by
  by_cases hf : s.len < s.size
  · refine ⟨stFree w p g x M s false v, 3, At.start h hI, ⟨?_, fun W hs => At.stop hs rfl, ?_⟩⟩
    · intro k W hk hs
      match k, hk, hs with
      | 0, hk, hs => exact (free0 w p g x M s false v hf ht W hs).mono fun _ _ ⟨a, b⟩ => ⟨⟨_, a⟩, b⟩
      | 1, hk, hs => exact (free1 w p g x M s false v hf ht W hs).mono fun _ _ ⟨a, b⟩ => ⟨⟨_, a⟩, b⟩
      | 2, hk, hs => exact (free2 w p g x M s false v hf ht W hs).mono fun _ _ ⟨a, b⟩ => ⟨⟨_, a⟩, b⟩
    · intro k W hk hs
      match k, hk, hs with
      | 0, hk, hs => exact At.still hs rfl (.inl rfl) (by omega)
      | 1, hk, hs => exact At.still hs rfl (.inl rfl) (by omega)
      | 2, hk, hs => exact At.still hs rfl (.inl rfl) (by omega)
      | 3, hk, hs => exact At.still hs rfl (.inr (by simp [LR.len])) (by omega)
  · refine ⟨stFull w p g x M s false v, 1, At.start h hI, ⟨?_, fun W hs => At.stop hs rfl, ?_⟩⟩
    · intro k W hk hs
      obtain rfl : k = 0 := by omega
      exact (full0 w p g x M s false v (by have := hI.len; omega) ht W hs).mono fun _ _ ⟨a, b⟩ => ⟨⟨_, a⟩, b⟩
    · intro k W hk hs
      match k, hk, hs with
      | 0, hk, hs => exact At.still hs rfl (.inl rfl) (by omega)
      | 1, hk, hs => exact At.still hs rfl (.inl rfl) (by omega)
theorem run_pop (w : World) (p : Mp) (g x : Nat) (M : MemS) (s : LR) (h : All w p g x M (s.ring false true) ⟨false, 75, 0, false, 0, false⟩) (hI : s.Inv M) (ht : M.time < 4611686018427387890) :
    ∃ St N, St 0 w ∧ StillRun p g x s.size s.len (-1) (M.time + 3) false w St N := by
  match hL : s.L with
  | [] =>
    refine ⟨stNone w p g x M s false, 1, At.start h hI, ⟨?_, fun W hs => At.stop hs rfl, ?_⟩⟩
    · intro k W hk hs
      obtain rfl : k = 0 := by omega
      exact (none0 w p g x M s false hL ht W hs).mono fun _ _ ⟨a, b⟩ => ⟨⟨_, a⟩, b⟩
    · intro k W hk hs
      match k, hk, hs with
      | 0, hk, hs => exact At.still2 hs rfl (.inl rfl) (by omega)
      | 1, hk, hs => exact At.still2 hs rfl (.inl rfl) (by omega)
  | v :: L =>
    refine ⟨stOne w p g x M s false v L, 3, At.start h hI, ⟨?_, fun W hs => At.stop hs rfl, ?_⟩⟩
    · intro k W hk hs
      match k, hk, hs with
      | 0, hk, hs => exact (one0 w p g x M s false v L hL ht W hs).mono fun _ _ ⟨a, b⟩ => ⟨⟨_, a⟩, b⟩
      | 1, hk, hs => exact (one1 w p g x M s false v L hL ht W hs).mono fun _ _ ⟨a, b⟩ => ⟨⟨_, a⟩, b⟩
      | 2, hk, hs => exact (one2 w p g x M s false v L hL ht W hs).mono fun _ _ ⟨a, b⟩ => ⟨⟨_, a⟩, b⟩
    · intro k W hk hs
      match k, hk, hs with
      | 0, hk, hs => exact At.still2 hs rfl (.inl rfl) (by omega)
      | 1, hk, hs => exact At.still2 hs rfl (.inl rfl) (by omega)
      | 2, hk, hs => exact At.still2 hs rfl (.inl rfl) (by omega)
      | 3, hk, hs => exact At.still2 hs rfl (.inr (by simp [LR.len, hL] <;> omega)) (by omega)

end Go.Proofs.Ytejplbeddcpmeaa.Ring
