/- The law GaugeOrders: its walk; no condition. -/
import Derived.Test.YtkgghjblfoempaaGW7
namespace Go.Proofs.Ytkgghjblfoempaa.GW
open Go.RowKit Go.Proofs.YtkgghjblfoempaaW.PrintWords Go.Proofs.Ytkgghjblfoempaa.Fl
set_option linter.unusedVariables false
set_option linter.unusedSimpArgs false
attribute [local go_sem] run_store_float

theorem wf_lt {b : Nat} (h : (Lit.float .f64 b).wf = true) : b < 18446744073709551616 := by simpa [Lit.wf] using h

set_option maxHeartbeats 16000000 in
theorem GaugeOrders_calls (a b c : Nat) (w : World) (ha : a < 18446744073709551616) (hb_ : b < 18446744073709551616) (hc_ : c < 18446744073709551616) :
    Calls Try.prog 11 #[.float .f64 a, .float .f64 b, .float .f64 c] w fun e w' => e = .returned (.bool true) ∧ Below w.heap.size w w' := by
  have HB := Aside0.mk (Below.refl w.heap.size w)
  have tr := cmpw_trans a b c
  have an := cmpw_anti b a
  have haa := cmpw_self a
  obtain ⟨k, hk⟩ : ∃ k, kindw a = k := ⟨_, rfl⟩
  rcases cmpw_range a b with hx | hx | hx <;> rw [hx] at tr an <;> rcases cmpw_range b c with hy | hy | hy <;> rw [hy] at tr <;> rcases cmpw_range a c with hz | hz | hz <;> rw [hz] at tr <;> (try (exfalso; omega)) <;> clear tr
  all_goals
    (try simp only [Int.neg_neg, Int.neg_zero, Int.reduceNeg] at an)
    go_enter Try.func11, Try.ntmps11
    go_wp2_with (first | (go_at_call 29; with_reducible refine (told_ _).mono ?_; rintro e w' ⟨rfl, hb⟩; have HBn := Aside0.mk (below_step (by repeat (first | (with_reducible first | exact HB.out | apply below_alloc | apply pw_below_drewN | apply below_drew1 ) | exact HB.out)) hb); clear HB; have HB := HBn; clear HBn; clear hb) | (go_at_call 40; with_reducible refine (compare_ _ _ _).mono ?_; rintro e w' ⟨rfl, rfl⟩) | (go_at_call 41; with_reducible refine (kind_ _ (by assumption) _).mono ?_; rintro e w' ⟨rfl, rfl⟩) | (go_at_call 42; with_reducible refine (rkind_ _ (by assumption) _).mono ?_; rintro e w' ⟨rfl, hb0⟩; have hb := hb0.below; clear hb0; have HBn := Aside0.mk (below_step (by repeat (first | (with_reducible first | exact HB.out | apply below_alloc | apply pw_below_drewN | apply below_drew1 ) | exact HB.out)) hb); clear HB; have HB := HBn; clear HBn; clear hb) | (go_at_call 43; with_reducible refine (rcompare_ _ _ (by assumption) (by assumption) _).mono ?_; rintro e w' ⟨rfl, hb⟩; have HBn := Aside0.mk (below_step (by repeat (first | (with_reducible first | exact HB.out | apply below_alloc | apply pw_below_drewN | apply below_drew1 ) | exact HB.out)) hb); clear HB; have HB := HBn; clear HBn; clear hb))
    go_ret
    exact ⟨rfl, (by repeat (first | (with_reducible first | exact HB.out | apply below_alloc | apply pw_below_drewN | apply below_drew1 ) | exact HB.out))⟩
end Go.Proofs.Ytkgghjblfoempaa.GW
