/- The laws' world as lists: what a putting and a taking do to them; no condition beyond bounds. -/
import Derived.Test.YtejplbeddcpmeaaLane9
namespace Go.Proofs.Ytejplbeddcpmeaa.Lane
open Go.RowKit Go.Proofs.YtejplbeddcpmeaaW.PrintWords Go.Proofs.Ytejplbeddcpmeaa.Heap Go.Proofs.Ytejplbeddcpmeaa.Mem Go.Proofs.Ytejplbeddcpmeaa.Ring
set_option linter.unusedVariables false
set_option linter.unusedSimpArgs false

/-- The first ring, from the j-th behind the cursor on, that has a number. -/
def nx (Ls : Nat → List Int) (n at_ : Nat) : Nat → Nat → Option Nat
  | 0, _ => none
  | f + 1, j => if Ls ((at_ + j) % n) = [] then nx Ls n at_ f (j + 1) else some ((at_ + j) % n)
theorem nx_some {Ls : Nat → List Int} {n at_ m : Nat} (hE : ∀ j, j < m → Ls ((at_ + j) % n) = []) (hL : Ls ((at_ + m) % n) ≠ []) : ∀ f j, j ≤ m → m < j + f → nx Ls n at_ f j = some ((at_ + m) % n) := by
  intro f
  induction f with
  | zero => intro j h1 h2; omega
  | succ f ih =>
    intro j h1 h2
    simp only [nx]
    by_cases e : j = m
    · subst e; rw [if_neg hL]
    · rw [if_pos (hE j (by omega))]; exact ih (j + 1) (by omega) (by omega)
theorem nx_none {Ls : Nat → List Int} {n at_ : Nat} (hE : ∀ j, j < n → Ls ((at_ + j) % n) = []) : ∀ f j, j + f ≤ n → nx Ls n at_ f j = none := by
  intro f
  induction f with
  | zero => intro j h; rfl
  | succ f ih =>
    intro j h
    simp only [nx]
    rw [if_pos (hE j (by omega))]; exact ih (j + 1) (by omega)
/-- The world, its rings' lists. -/
structure LL (w : World) (u : Nat) (p : Mp) (b2 c2 x : Nat) (gs : Nat → Nat) (s : LaneS) (k T : Nat) (Ls : Nat → List Int) : Prop where
  ex : ∃ ss M, LW w u p b2 c2 x gs ss s M ∧ (∀ i, i < s.n → (ss i).L = Ls i ∧ (ss i).size = k) ∧ M.time ≤ T
/-- A taking that is over. -/
structure ActSt (w : World) (y : Nat) (ok : Bool) (v fr : Int) : Prop where
  ex : ∃ x a g A, LActAt w y x a ∧ a.over = true ∧ ActAt w a.pop g A ∧ A.ok = ok ∧ (ok = true → A.value = v ∧ a.from_ = fr) ∧ 1 ≤ A.mark
theorem ActSt.chg {w w' : World} {y : Nat} {ok : Bool} {v fr : Int} (h : ActSt w y ok v fr) {S : Nat → Prop} (hc : Chg S w w') (hS : ∀ {k t : Nat} {cs : List Value}, Blk w k cs t → t = 109 ∨ t = 107 → ¬ S k) : ActSt w' y ok v fr := by
  obtain ⟨x, a, g, A, h1, h2, h3, h4, h5, h6⟩ := h.ex
  exact ⟨x, a, g, A, Blk.chg h1 hc (hS h1 (.inl rfl)), h2, Blk.chg h3 hc (hS h3 (.inr rfl)), h4, h5, h6⟩
theorem ActSt.ok_ {w : World} {y : Nat} {ok : Bool} {v fr : Int} (h : ActSt w y ok v fr) : Calls Try.prog 53 #[pt y] w fun e w' => e = .returned (.bool ok) ∧ w = w' := by
  obtain ⟨x, a, g, A, h1, h2, h3, h4, h5, h6⟩ := h.ex
  have := Lane.ok_ w y x g a A h1 h2 h3
  rw [h4] at this
  exact this
theorem ActSt.value_ {w : World} {y : Nat} {ok : Bool} {v fr : Int} (h : ActSt w y ok v fr) : Calls Try.prog 54 #[pt y] w fun e w' => e = .returned (.int .u64 (if ok = true then v else 0)) ∧ w = w' := by
  obtain ⟨x, a, g, A, h1, h2, h3, h4, h5, h6⟩ := h.ex
  have := Lane.value_ w y x g a A h1 h2 h3
  rw [h4] at this
  cases ok
  · exact this
  · rw [(h5 rfl).1] at this; exact this
theorem ActSt.from_ {w : World} {y : Nat} {ok : Bool} {v fr : Int} (h : ActSt w y ok v fr) : Calls Try.prog 55 #[pt y] w fun e w' => e = .returned (.int .i64 (if ok = true then fr else -1)) ∧ w = w' := by
  obtain ⟨x, a, g, A, h1, h2, h3, h4, h5, h6⟩ := h.ex
  have := Lane.from_ w y x g a A h1 h2 h3
  rw [h4] at this
  cases ok
  · exact this
  · rw [(h5 rfl).2] at this; exact this
theorem ActSt.mark_ {w : World} {y : Nat} {ok : Bool} {v fr : Int} (h : ActSt w y ok v fr) : Calls Try.prog 56 #[pt y] w fun e w' => (∃ m : Int, e = .returned (.int .i64 m) ∧ 1 ≤ m) ∧ w = w' := by
  obtain ⟨x, a, g, A, h1, h2, h3, h4, h5, h6⟩ := h.ex
  exact (Lane.mark_ w y x g a A h1 h2 h3).mono fun e w' ⟨he, hw⟩ => ⟨⟨_, he, h6⟩, hw⟩
def updL (Ls : Nat → List Int) (i : Nat) (l : List Int) : Nat → List Int := fun j => if j = i then l else Ls j
/-- A taking's answer, by the lists. -/
def TookL (w' : World) (n at_ : Nat) (Ls : Nat → List Int) (y : Nat) (at2 : Nat) (Ls2 : Nat → List Int) : Prop :=
  match nx Ls n at_ n 0 with
  | none => ActSt w' y false 0 0 ∧ at2 = at_ ∧ Ls2 = Ls
  | some k => ∃ v l, Ls k = v :: l ∧ ActSt w' y true v (k : Nat) ∧ at2 = (k + 1) % n ∧ Ls2 = updL Ls k l ∧ k < n
section
variable {w : World} {u : Nat} {p : Mp} {b2 c2 x : Nat} {gs : Nat → Nat} {s : LaneS} {k T : Nat} {Ls : Nat → List Int}
theorem LL.notLT (h : LL w u p b2 c2 x gs s k T Ls) {j t : Nat} {cs : List Value} (hb : Blk w j cs t) (ht : t = 109 ∨ t = 107) : ¬ LT p x s.n gs j := by
  obtain ⟨ss, M, hl, _⟩ := h.ex
  rcases ht with e | e <;> subst e
  · exact hl.notLT hb (by decide) (by decide) (by decide) (by decide) (by decide)
  · exact hl.notLT hb (by decide) (by decide) (by decide) (by decide) (by decide)
theorem LL.take_ (h : LL w u p b2 c2 x gs s k T Ls) (ht : T ≤ 1000000000) :
    Calls Try.prog 51 #[pt u] w fun e w' => ∃ y at2 Ls2, e = .returned (pt y) ∧ LL w' u p b2 c2 x gs { s with act := pt y, at_ := at2 } k (T + 1002) Ls2 ∧ TookL w' s.n s.at_ Ls y at2 Ls2 ∧ Chg (LT p x s.n gs) w w' := by
  obtain ⟨ss, M, hl, hL, hM⟩ := h.ex
  have hn0 := hl.at0
  have hss : ∀ j, (ss ((s.at_ + j) % s.n)).L = Ls ((s.at_ + j) % s.n) := fun j => (hL _ (Nat.mod_lt _ (by omega))).1
  refine (Lane.take_ hl (by omega)).mono fun e w' ⟨y, he, ⟨at2, ss', a, A, g, M', hlw, hact, hov, hA, hmk, htm, hy, hpy, htook⟩, hc⟩ => ?_
  cases htook with
  | one m v L hm hE hLm hok hv hfr =>
    refine ⟨y, _, updL Ls ((s.at_ + m) % s.n) L, he, ⟨_, M', hlw, fun i hi => ?_, by omega⟩, ?_, hc⟩
    · have h1 := hL i hi
      unfold upd updL LR.pop
      by_cases e : i = (s.at_ + m) % s.n
      · rw [if_pos e, if_pos e]; exact ⟨rfl, by rw [← e]; exact h1.2⟩
      · rw [if_neg e, if_neg e]; exact h1
    · have hnx : nx Ls s.n s.at_ s.n 0 = some ((s.at_ + m) % s.n) := nx_some (fun j hj => by rw [← hss]; exact hE j hj) (by rw [← hss, hLm]; simp) s.n 0 (by omega) (by omega)
      unfold TookL
      rw [hnx]
      exact ⟨v, L, by rw [← hss]; exact hLm, ⟨x, a, g, A, hact, hov, hA, hok, fun _ => ⟨hv, hfr⟩, hmk⟩, rfl, rfl, Nat.mod_lt _ (by omega)⟩
  | none_ hE hok =>
    refine ⟨y, _, Ls, he, ⟨_, M', hlw, hL, by omega⟩, ?_, hc⟩
    have hnx : nx Ls s.n s.at_ s.n 0 = none := nx_none (fun j hj => by rw [← hss]; exact hE j hj) s.n 0 (by omega)
    unfold TookL
    rw [hnx]
    exact ⟨⟨x, a, g, A, hact, hov, hA, hok, (fun q => by cases q), hmk⟩, rfl, rfl⟩
def putL (Ls : Nat → List Int) (k i : Nat) (v : Int) : Nat → List Int := if (Ls i).length < k then updL Ls i (Ls i ++ [v]) else Ls
theorem LL.put_ (h : LL w u p b2 c2 x gs s k T Ls) (ht : T ≤ 1000000000) (i : Nat) (hi : i < s.n) (v : Int) (hv : 0 ≤ v ∧ v ≤ 18446744073709551615) :
    Calls Try.prog 57 #[pt u, .int .i64 (i : Int), .int .u64 v] w fun e w' => e = .returned (.bool (decide ((Ls i).length < k))) ∧ LL w' u p b2 c2 x gs s k (T + 3) (putL Ls k i v) ∧ Chg (LT p x s.n gs) w w' := by
  obtain ⟨ss, M, hl, hL, hM⟩ := h.ex
  obtain ⟨l1, l2⟩ := hL i hi
  have hlen : ((ss i).len < (ss i).size) = ((Ls i).length < k) := by
    unfold LR.len
    rw [l1, l2]
    exact propext (by omega)
  refine (Lane.put_ hl i hi v hv (by omega)).mono fun e w' ⟨he, ⟨M', hlw, htm⟩, hc⟩ => ⟨by rw [he]; simp only [hlen], ⟨_, M', hlw, fun j hj => ?_, by omega⟩, hc.mono (fun j _ q => by rcases q with q | q; exact .inl q; exact .inr (.inr ⟨i, hi, q⟩))⟩
  have h1 := hL j hj
  unfold upd putL LR.pushed
  by_cases c : (Ls i).length < k
  · have c2 : (ss i).len < (ss i).size := by rw [hlen]; exact c
    rw [if_pos c, if_pos c2]
    unfold updL
    by_cases e : j = i
    · rw [if_pos e, if_pos e]; exact ⟨by rw [← l1], l2⟩
    · rw [if_neg e, if_neg e]; exact h1
  · have c2 : ¬ (ss i).len < (ss i).size := by rw [hlen]; exact c
    rw [if_neg c, if_neg c2]
    by_cases e : j = i
    · rw [if_pos e, e]; exact ⟨l1, l2⟩
    · rw [if_neg e]; exact h1
def sumLs (Ls : Nat → List Int) : Nat → Int
  | 0 => 0
  | n + 1 => sumLs Ls n + ((Ls n).length : Int)
theorem LL.len_ (h : LL w u p b2 c2 x gs s k T Ls) : Calls Try.prog 58 #[pt x] w fun e w' => e = .returned (.int .i64 (sumLs Ls s.n)) ∧ ∃ m, w' = w.drewN m := by
  obtain ⟨ss, M, hl, hL, hM⟩ := h.ex
  have hs : ∀ n, n ≤ s.n → suml ss n = sumLs Ls n := by
    intro n
    induction n with
    | zero => intro _; rfl
    | succ n ih =>
      intro hn
      simp only [suml, sumLs]
      rw [ih (by omega), ← (hL n (by omega)).1]
      rfl
  have := Lane.len_ hl
  rw [hs s.n (Nat.le_refl _)] at this
  exact this
end
end Go.Proofs.Ytejplbeddcpmeaa.Lane
