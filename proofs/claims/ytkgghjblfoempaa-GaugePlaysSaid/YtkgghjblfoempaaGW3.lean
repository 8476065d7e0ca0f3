/- The reference's rank, Compare, Same: their walks; no condition. -/
import Derived.Test.YtkgghjblfoempaaGW2
namespace Go.Proofs.Ytkgghjblfoempaa.GW
open Go.RowKit Go.Proofs.YtkgghjblfoempaaW.PrintWords Go.Proofs.Ytkgghjblfoempaa.Fl
set_option linter.unusedVariables false
set_option linter.unusedSimpArgs false

def rankw (x : Nat) : Int := if cls x = 6 then 6 else if cls x = 5 then 5 else if cls x = 0 then 0 else if val x = 0 then (if sgn x then 2 else 3) else if val x < 0 then 1 else 4

set_option maxHeartbeats 4000000 in
theorem rank_ (x : Nat) (hx : x < 18446744073709551616) (w : World) : Calls Try.prog 64 #[.float .f64 x] w fun e w' => e = .returned (.int .i64 (rankw x)) ∧ Below w.heap.size w w' := by
  have HB := Aside0.mk (Below.refl w.heap.size w)
  have hn := neg_iff x
  rw [← fmt] at hn
  obtain ⟨k, hk⟩ : ∃ k, kindw x = k := ⟨_, rfl⟩
  unfold rankw
  rcases cls_le x with c | c | c | c
  · have hk' := hk
    unfold kindw at hk'
    rw [c] at hk' hn ⊢
    simp only [show ¬ ((0 : Nat) = 6) by decide, show ¬ ((0 : Nat) = 5) by decide, if_false, if_true] at hk' ⊢
    subst hk'
    go_enter Try.func64, Try.ntmps64
    go_wp2_with (first | (go_at_call 42; with_reducible refine (rkind_ x hx _).mono ?_; rw [hk]; rintro e w' ⟨rfl, hb0⟩; have hb := hb0.below; clear hb0; have HBn := Aside0.mk (below_step (by repeat (first | (with_reducible first | exact HB.out | apply below_alloc | apply pw_below_drewN | apply below_drew1) | exact HB.out)) hb); clear HB hb; have HB := HBn; clear HBn))
    go_ret
    exact ⟨rfl, (by repeat (first | (with_reducible first | exact HB.out | apply below_alloc | apply pw_below_drewN | apply below_drew1) | exact HB.out))⟩
  · by_cases hv : val x = 0
    · cases hs : sgn x
      · have hk' := hk
        unfold kindw at hk'
        rw [c, hv, hs] at hk'
        rw [c, hv]
        simp only [show ¬ ((1 : Nat) = 6) by decide, show ¬ ((1 : Nat) = 5) by decide, show ¬ ((1 : Nat) = 0) by decide, if_false, if_true, Bool.false_eq_true] at hk' ⊢
        subst hk'
        clear hn
        go_enter Try.func64, Try.ntmps64
        go_wp2_with (first | (go_at_call 42; with_reducible refine (rkind_ x hx _).mono ?_; rw [hk]; rintro e w' ⟨rfl, hb0⟩; have hb := hb0.below; clear hb0; have HBn := Aside0.mk (below_step (by repeat (first | (with_reducible first | exact HB.out | apply below_alloc | apply pw_below_drewN | apply below_drew1) | exact HB.out)) hb); clear HB hb; have HB := HBn; clear HBn))
        go_ret
        exact ⟨rfl, (by repeat (first | (with_reducible first | exact HB.out | apply below_alloc | apply pw_below_drewN | apply below_drew1) | exact HB.out))⟩
      · have hk' := hk
        unfold kindw at hk'
        rw [c, hv, hs] at hk'
        rw [c, hv]
        simp only [show ¬ ((1 : Nat) = 6) by decide, show ¬ ((1 : Nat) = 5) by decide, show ¬ ((1 : Nat) = 0) by decide, if_false, if_true] at hk' ⊢
        subst hk'
        clear hn
        go_enter Try.func64, Try.ntmps64
        go_wp2_with (first | (go_at_call 42; with_reducible refine (rkind_ x hx _).mono ?_; rw [hk]; rintro e w' ⟨rfl, hb0⟩; have hb := hb0.below; clear hb0; have HBn := Aside0.mk (below_step (by repeat (first | (with_reducible first | exact HB.out | apply below_alloc | apply pw_below_drewN | apply below_drew1) | exact HB.out)) hb); clear HB hb; have HB := HBn; clear HBn))
        go_ret
        exact ⟨rfl, (by repeat (first | (with_reducible first | exact HB.out | apply below_alloc | apply pw_below_drewN | apply below_drew1) | exact HB.out))⟩
    · have hk' := hk
      unfold kindw at hk'
      rw [c, if_neg hv] at hk'
      rw [c, if_neg hv]
      simp only [show ¬ ((1 : Nat) = 6) by decide, show ¬ ((1 : Nat) = 5) by decide, show ¬ ((1 : Nat) = 0) by decide, if_false, if_true] at hk' ⊢
      subst hk'
      by_cases hl : val x < 0
      · rw [if_pos hl]
        rw [decide_eq_true (show cls x = 0 ∨ cls x = 1 ∧ val x < 0 from .inr ⟨c, hl⟩)] at hn
        go_enter Try.func64, Try.ntmps64
        go_wp2_with (first | (go_at_call 42; with_reducible refine (rkind_ x hx _).mono ?_; rw [hk]; rintro e w' ⟨rfl, hb0⟩; have hb := hb0.below; clear hb0; have HBn := Aside0.mk (below_step (by repeat (first | (with_reducible first | exact HB.out | apply below_alloc | apply pw_below_drewN | apply below_drew1) | exact HB.out)) hb); clear HB hb; have HB := HBn; clear HBn))
        go_ret
        exact ⟨rfl, (by repeat (first | (with_reducible first | exact HB.out | apply below_alloc | apply pw_below_drewN | apply below_drew1) | exact HB.out))⟩
      · rw [if_neg hl]
        rw [decide_eq_false (show ¬ (cls x = 0 ∨ cls x = 1 ∧ val x < 0) from by omega)] at hn
        go_enter Try.func64, Try.ntmps64
        go_wp2_with (first | (go_at_call 42; with_reducible refine (rkind_ x hx _).mono ?_; rw [hk]; rintro e w' ⟨rfl, hb0⟩; have hb := hb0.below; clear hb0; have HBn := Aside0.mk (below_step (by repeat (first | (with_reducible first | exact HB.out | apply below_alloc | apply pw_below_drewN | apply below_drew1) | exact HB.out)) hb); clear HB hb; have HB := HBn; clear HBn))
        go_ret
        exact ⟨rfl, (by repeat (first | (with_reducible first | exact HB.out | apply below_alloc | apply pw_below_drewN | apply below_drew1) | exact HB.out))⟩
  · have hk' := hk
    unfold kindw at hk'
    rw [c] at hk' hn ⊢
    simp only [show ¬ ((5 : Nat) = 6) by decide, if_false, if_true] at hk' ⊢
    subst hk'
    go_enter Try.func64, Try.ntmps64
    go_wp2_with (first | (go_at_call 42; with_reducible refine (rkind_ x hx _).mono ?_; rw [hk]; rintro e w' ⟨rfl, hb0⟩; have hb := hb0.below; clear hb0; have HBn := Aside0.mk (below_step (by repeat (first | (with_reducible first | exact HB.out | apply below_alloc | apply pw_below_drewN | apply below_drew1) | exact HB.out)) hb); clear HB hb; have HB := HBn; clear HBn))
    go_ret
    exact ⟨rfl, (by repeat (first | (with_reducible first | exact HB.out | apply below_alloc | apply pw_below_drewN | apply below_drew1) | exact HB.out))⟩
  · have hk' := hk
    unfold kindw at hk'
    rw [c] at hk' hn ⊢
    simp only [if_true] at hk' ⊢
    subst hk'
    go_enter Try.func64, Try.ntmps64
    go_wp2_with (first | (go_at_call 42; with_reducible refine (rkind_ x hx _).mono ?_; rw [hk]; rintro e w' ⟨rfl, hb0⟩; have hb := hb0.below; clear hb0; have HBn := Aside0.mk (below_step (by repeat (first | (with_reducible first | exact HB.out | apply below_alloc | apply pw_below_drewN | apply below_drew1) | exact HB.out)) hb); clear HB hb; have HB := HBn; clear HBn))
    go_ret
    exact ⟨rfl, (by repeat (first | (with_reducible first | exact HB.out | apply below_alloc | apply pw_below_drewN | apply below_drew1) | exact HB.out))⟩

theorem rank_cmp (a b : Nat) : (rankw a < rankw b → cmpw a b = -1) ∧ (rankw b < rankw a → cmpw a b = 1) ∧ (rankw a = rankw b → kindw a ≠ 0 → cmpw a b = 0) ∧ (rankw a = rankw b → kindw a = 0 → cls a = 1 ∧ cls b = 1 ∧ zs a = 0 ∧ zs b = 0) := by
  have va := val_of a
  have vb := val_of b
  have R : ∀ x, (cls x = 6 ∧ rankw x = 6 ∧ kindw x = 5 ∧ val x = 0 ∧ zs x = 0) ∨ (cls x = 5 ∧ rankw x = 5 ∧ kindw x = 3 ∧ val x = 0 ∧ zs x = 0) ∨ (cls x = 0 ∧ rankw x = 0 ∧ kindw x = 4 ∧ val x = 0 ∧ zs x = 0) ∨ (cls x = 1 ∧ rankw x = 2 ∧ kindw x = 2 ∧ val x = 0 ∧ zs x = -1) ∨ (cls x = 1 ∧ rankw x = 3 ∧ kindw x = 1 ∧ val x = 0 ∧ zs x = 0) ∨ (cls x = 1 ∧ rankw x = 1 ∧ kindw x = 0 ∧ val x < 0 ∧ zs x = 0) ∨ (cls x = 1 ∧ rankw x = 4 ∧ kindw x = 0 ∧ 0 < val x ∧ zs x = 0) := by
    intro x
    have vx := val_of x
    unfold rankw kindw zs
    rcases cls_le x with c | c | c | c
    · have v := vx (by omega); rw [c]; simp [v]
    · rw [c]
      by_cases hv : val x = 0
      · rw [hv]; cases sgn x <;> simp
      · by_cases hl : val x < 0
        · simp [hv, hl]
        · simp [hv, hl]; omega
    · have v := vx (by omega); rw [c]; simp [v]
    · have v := vx (by omega); rw [c]; simp [v]
  have ra := R a
  have rb := R b
  clear R va vb
  unfold cmpw
  generalize cls a = ca at *; generalize cls b = cb at *; generalize val a = xa at *; generalize val b = xb at *
  generalize zs a = za at *; generalize zs b = zb at *; generalize rankw a = ka at *; generalize rankw b = kb at *; generalize kindw a = na at *; generalize kindw b = nb at *
  rcases ra with ra | ra | ra | ra | ra | ra | ra <;> rcases rb with rb | rb | rb | rb | rb | rb | rb <;> obtain ⟨rfl, rfl, rfl, h1, rfl⟩ := ra <;> obtain ⟨rfl, rfl, rfl, h2, rfl⟩ := rb <;> (refine ⟨fun h => ?_, fun h => ?_, fun h g => ?_, fun h g => ?_⟩) <;> (try (exfalso; omega)) <;> (try (repeat' split)) <;> omega

set_option maxHeartbeats 8000000 in
theorem rcompare_ (a b : Nat) (ha : a < 18446744073709551616) (hb_ : b < 18446744073709551616) (w : World) : Calls Try.prog 43 #[.float .f64 a, .float .f64 b] w fun e w' => e = .returned (.int .i64 (cmpw a b)) ∧ Below w.heap.size w w' := by
  have HB := Aside0.mk (Below.refl w.heap.size w)
  obtain ⟨h1, h2, h3, h4⟩ := rank_cmp a b
  have he := eq_iff a b
  have hl := lt_iff a b
  by_cases c1 : rankw a < rankw b
  · rw [h1 c1]
    have d1 : decide (rankw a < rankw b) = true := decide_eq_true c1
    clear h1 h2 h3 h4 he hl
    go_enter Try.func43, Try.ntmps43
    go_wp2_with (first | (go_at_call 64; with_reducible refine (rank_ _ (by assumption) _).mono ?_; rintro e w' ⟨rfl, hb⟩; have HBn := Aside0.mk (below_step (by repeat (first | (with_reducible first | exact HB.out | apply below_alloc | apply pw_below_drewN | apply below_drew1) | exact HB.out)) hb); clear HB hb; have HB := HBn; clear HBn) | (go_at_call 42; with_reducible refine (rkind_ _ (by assumption) _).mono ?_; rintro e w' ⟨rfl, hb0⟩; have hb := hb0.below; clear hb0; have HBn := Aside0.mk (below_step (by repeat (first | (with_reducible first | exact HB.out | apply below_alloc | apply pw_below_drewN | apply below_drew1) | exact HB.out)) hb); clear HB hb; have HB := HBn; clear HBn))
    go_ret
    exact ⟨rfl, (by repeat (first | (with_reducible first | exact HB.out | apply below_alloc | apply pw_below_drewN | apply below_drew1) | exact HB.out))⟩
  · by_cases c2 : rankw b < rankw a
    · rw [h2 c2]
      clear h1 h2 h3 h4 he hl
      go_enter Try.func43, Try.ntmps43
      go_wp2_with (first | (go_at_call 64; with_reducible refine (rank_ _ (by assumption) _).mono ?_; rintro e w' ⟨rfl, hb⟩; have HBn := Aside0.mk (below_step (by repeat (first | (with_reducible first | exact HB.out | apply below_alloc | apply pw_below_drewN | apply below_drew1) | exact HB.out)) hb); clear HB hb; have HB := HBn; clear HBn) | (go_at_call 42; with_reducible refine (rkind_ _ (by assumption) _).mono ?_; rintro e w' ⟨rfl, hb0⟩; have hb := hb0.below; clear hb0; have HBn := Aside0.mk (below_step (by repeat (first | (with_reducible first | exact HB.out | apply below_alloc | apply pw_below_drewN | apply below_drew1) | exact HB.out)) hb); clear HB hb; have HB := HBn; clear HBn))
      go_ret
      exact ⟨rfl, (by repeat (first | (with_reducible first | exact HB.out | apply below_alloc | apply pw_below_drewN | apply below_drew1) | exact HB.out))⟩
    · have c3 : rankw a = rankw b := by omega
      by_cases c4 : kindw a = 0
      · obtain ⟨x1, x2, x3, x4⟩ := h4 c3 c4
        rw [x1, x2] at he hl
        by_cases c5 : val a = val b
        · have e0 : cmpw a b = 0 := by unfold cmpw; rw [x1, x2, x3, x4, c5]; simp
          have he' : (FloatKind.f64.format.order a b == some .eq) = true := he.mpr ⟨by decide, rfl, c5⟩
          rw [e0]
          clear h1 h2 h3 h4 he hl x1 x2 x3 x4 c5
          go_enter Try.func43, Try.ntmps43
          go_wp2_with (first | (go_at_call 64; with_reducible refine (rank_ _ (by assumption) _).mono ?_; rintro e w' ⟨rfl, hb⟩; have HBn := Aside0.mk (below_step (by repeat (first | (with_reducible first | exact HB.out | apply below_alloc | apply pw_below_drewN | apply below_drew1) | exact HB.out)) hb); clear HB hb; have HB := HBn; clear HBn) | (go_at_call 42; with_reducible refine (rkind_ _ (by assumption) _).mono ?_; rintro e w' ⟨rfl, hb0⟩; have hb := hb0.below; clear hb0; have HBn := Aside0.mk (below_step (by repeat (first | (with_reducible first | exact HB.out | apply below_alloc | apply pw_below_drewN | apply below_drew1) | exact HB.out)) hb); clear HB hb; have HB := HBn; clear HBn))
          go_ret
          exact ⟨rfl, (by repeat (first | (with_reducible first | exact HB.out | apply below_alloc | apply pw_below_drewN | apply below_drew1) | exact HB.out))⟩
        · have he' : (FloatKind.f64.format.order a b == some .eq) = false := Bool.eq_false_iff.mpr (fun q => c5 (he.mp q).2.2)
          by_cases c6 : val a < val b
          · have e0 : cmpw a b = -1 := by unfold cmpw; rw [x1, x2, if_neg (by omega), if_neg (by omega), if_pos c6]
            have hl' : (FloatKind.f64.format.order a b == some .lt) = true := hl.mpr ⟨by decide, by decide, .inr ⟨rfl, c6⟩⟩
            rw [e0]
            clear h1 h2 h3 h4 he hl x1 x2 x3 x4 c5 c6
            go_enter Try.func43, Try.ntmps43
            go_wp2_with (first | (go_at_call 64; with_reducible refine (rank_ _ (by assumption) _).mono ?_; rintro e w' ⟨rfl, hb⟩; have HBn := Aside0.mk (below_step (by repeat (first | (with_reducible first | exact HB.out | apply below_alloc | apply pw_below_drewN | apply below_drew1) | exact HB.out)) hb); clear HB hb; have HB := HBn; clear HBn) | (go_at_call 42; with_reducible refine (rkind_ _ (by assumption) _).mono ?_; rintro e w' ⟨rfl, hb0⟩; have hb := hb0.below; clear hb0; have HBn := Aside0.mk (below_step (by repeat (first | (with_reducible first | exact HB.out | apply below_alloc | apply pw_below_drewN | apply below_drew1) | exact HB.out)) hb); clear HB hb; have HB := HBn; clear HBn))
            go_ret
            exact ⟨rfl, (by repeat (first | (with_reducible first | exact HB.out | apply below_alloc | apply pw_below_drewN | apply below_drew1) | exact HB.out))⟩
          · have e0 : cmpw a b = 1 := by unfold cmpw; rw [x1, x2, if_neg (by omega), if_neg (by omega), if_neg c6, if_pos (by omega)]
            have hl' : (FloatKind.f64.format.order a b == some .lt) = false := Bool.eq_false_iff.mpr (fun q => by have := hl.mp q; omega)
            rw [e0]
            clear h1 h2 h3 h4 he hl x1 x2 x3 x4 c5 c6
            go_enter Try.func43, Try.ntmps43
            go_wp2_with (first | (go_at_call 64; with_reducible refine (rank_ _ (by assumption) _).mono ?_; rintro e w' ⟨rfl, hb⟩; have HBn := Aside0.mk (below_step (by repeat (first | (with_reducible first | exact HB.out | apply below_alloc | apply pw_below_drewN | apply below_drew1) | exact HB.out)) hb); clear HB hb; have HB := HBn; clear HBn) | (go_at_call 42; with_reducible refine (rkind_ _ (by assumption) _).mono ?_; rintro e w' ⟨rfl, hb0⟩; have hb := hb0.below; clear hb0; have HBn := Aside0.mk (below_step (by repeat (first | (with_reducible first | exact HB.out | apply below_alloc | apply pw_below_drewN | apply below_drew1) | exact HB.out)) hb); clear HB hb; have HB := HBn; clear HBn))
            go_ret
            exact ⟨rfl, (by repeat (first | (with_reducible first | exact HB.out | apply below_alloc | apply pw_below_drewN | apply below_drew1) | exact HB.out))⟩
      · rw [h3 c3 c4]
        clear h1 h2 h3 h4 he hl
        go_enter Try.func43, Try.ntmps43
        go_wp2_with (first | (go_at_call 64; with_reducible refine (rank_ _ (by assumption) _).mono ?_; rintro e w' ⟨rfl, hb⟩; have HBn := Aside0.mk (below_step (by repeat (first | (with_reducible first | exact HB.out | apply below_alloc | apply pw_below_drewN | apply below_drew1) | exact HB.out)) hb); clear HB hb; have HB := HBn; clear HBn) | (go_at_call 42; with_reducible refine (rkind_ _ (by assumption) _).mono ?_; rintro e w' ⟨rfl, hb0⟩; have hb := hb0.below; clear hb0; have HBn := Aside0.mk (below_step (by repeat (first | (with_reducible first | exact HB.out | apply below_alloc | apply pw_below_drewN | apply below_drew1) | exact HB.out)) hb); clear HB hb; have HB := HBn; clear HBn))
        go_ret
        exact ⟨rfl, (by repeat (first | (with_reducible first | exact HB.out | apply below_alloc | apply pw_below_drewN | apply below_drew1) | exact HB.out))⟩

theorem rsame_ (a b : Nat) (ha : a < 18446744073709551616) (hb_ : b < 18446744073709551616) (w : World) : Calls Try.prog 39 #[.float .f64 a, .float .f64 b] w fun e w' => e = .returned (.bool (cmpw a b == 0)) ∧ Below w.heap.size w w' := by
  have HB := Aside0.mk (Below.refl w.heap.size w)
  go_enter Try.func39, Try.ntmps39
  go_wp2_with (first | (go_at_call 43; with_reducible refine (rcompare_ _ _ (by assumption) (by assumption) _).mono ?_; rintro e w' ⟨rfl, hb⟩; have HBn := Aside0.mk (below_step (by repeat (first | (with_reducible first | exact HB.out | apply below_alloc | apply pw_below_drewN | apply below_drew1) | exact HB.out)) hb); clear HB hb; have HB := HBn; clear HBn))
  go_ret
  exact ⟨rfl, (by repeat (first | (with_reducible first | exact HB.out | apply below_alloc | apply pw_below_drewN | apply below_drew1) | exact HB.out))⟩
end Go.Proofs.Ytkgghjblfoempaa.GW
