/- The law RingNews: its walk; no condition. -/
import Derived.Test.YtejplbeddcpmeaaRing6
namespace Go.Proofs.Ytejplbeddcpmeaa.Ring
open Go.RowKit Go.Proofs.YtejplbeddcpmeaaW.PrintWords Go.Proofs.Ytejplbeddcpmeaa.Heap Go.Proofs.Ytejplbeddcpmeaa.Mem
set_option linter.unusedVariables false
set_option linter.unusedSimpArgs false

theorem rcells_in (w : World) (s : Int) (h0 : 1 ≤ s) (h1 : s ≤ 64) : Calls Try.prog 47 #[.int .i64 s] w fun e w' => e = .returned (.int .i64 (s + 2)) ∧ w = w' := by
  go_enter Try.func47, Try.ntmps47
  go_wp2
  go_ret
  exact ⟨rfl, rfl⟩
theorem rcells_out (w : World) (s : Int) (h : ¬ (1 ≤ s ∧ s ≤ 64)) : Calls Try.prog 47 #[.int .i64 s] w fun e w' => e = .returned (.int .i64 0) ∧ w = w' := by
  by_cases h1 : s < 1
  · clear h
    go_enter Try.func47, Try.ntmps47
    go_wp2
    go_ret
    exact ⟨rfl, rfl⟩
  · have h2 : 64 < s := by omega
    clear h
    go_enter Try.func47, Try.ntmps47
    go_wp2
    go_ret
    exact ⟨rfl, rfl⟩

set_option maxHeartbeats 8000000 in
set_option maxRecDepth 100000 in
theorem RingNews_calls (a0 a1 : Int) (w : World) (hw0 : -9223372036854775808 ≤ a0 ∧ a0 ≤ 9223372036854775807) (hw1 : -9223372036854775808 ≤ a1 ∧ a1 ≤ 9223372036854775807) :
    Calls Try.prog 10 #[.int .i64 a0, .int .i64 a1] w fun e w' => e = .returned (.bool true) ∧ Below w.heap.size w w' := by
  have HB := Aside0.mk (Below.refl w.heap.size w)
  have HNEW := Aside0.mk (show ∀ W : World, Calls Try.prog 15 #[.int .i64 70, .int .i64 0] W (MadeMem 97 W (MemS.new (70 : Nat) (0 : Nat))) from fun W => new_ok W 70 0 (by decide) (by decide) (by decide))
  have hlen : (MemS.new (70 : Nat) (0 : Nat)).cells.length = 70 := by decide
  have htm : (MemS.new (70 : Nat) (0 : Nat)).time = 0 := by decide
  generalize MemS.new (70 : Nat) (0 : Nat) = M0 at *
  by_cases hs : 1 ≤ a0 ∧ a0 ≤ 64
  · obtain ⟨hs0, hs1⟩ := hs
    by_cases hb : 0 ≤ a1
    · by_cases hb2 : a1 ≤ 70 - (a0 + 2)
      · have HRN := Aside0.mk (fun W (p : Mp) (hm : MemAt 97 W p M0) => ringNew_ok W p M0 a1 a0 9 hm (by omega) ⟨hs0, hs1⟩ hb (by omega) (by omega))
        clear hlen htm hw0 hw1
        go_enter Try.func10, Try.ntmps10
        go_wp2_with (first | (go_at_call 15; (with_reducible refine (HNEW.out _).mono ?_); rintro e w' ⟨p, rfl, hm, hb, hk⟩; have HBn := Aside0.mk (below_step (by repeat (first | exact HB.out | apply below_alloc | apply pw_below_drewN | apply below_drew1)) hb); have HK := Aside0.mk (fun k (hh : p.has k) => Nat.le_trans (below_size HB.out) (hk k hh)); have HM := Aside0.mk hm; clear HB hm hb hk; have HB := HBn; clear HBn) | (go_at_call 30; (with_reducible refine (HRN.out _ p HM.out).mono ?_); rintro e w' ⟨g, rfl, hm, hr, hc, hg⟩; have HBn := Aside0.mk (below_chg (by repeat (first | exact HB.out | apply below_alloc | apply pw_below_drewN | apply below_drew1)) hc (below_size (by repeat (first | exact HB.out | apply below_alloc | apply pw_below_drewN | apply below_drew1))) HK.out); clear HB hm hr hc hg; have HB := HBn; clear HBn) | (go_at_call 47; (with_reducible refine (rcells_in _ _ hs0 hs1).mono ?_); rintro e w' ⟨rfl, rfl⟩) | (go_at_call 48; (with_reducible refine (cellsN_in _ _ hs0 hs1).mono ?_); rintro e w' ⟨rfl, rfl⟩) | (go_at_call 30; (refine (ringNew_nil _ 4 0 (by decide) (by decide)).mono ?_); rintro e w' ⟨rfl, rfl⟩) | (go_at_call 31; (with_reducible refine (told_ _).mono ?_); rintro e w' ⟨rfl, hb⟩; have HBn := Aside0.mk (below_step (by repeat (first | exact HB.out | apply below_alloc | apply pw_below_drewN | apply below_drew1)) hb); clear HB hb; have HB := HBn; clear HBn) | (go_at_call 33; (with_reducible refine (push_nil _ 1).mono ?_); rintro e w' ⟨rfl, rfl⟩) | (go_at_call 35; (with_reducible refine (pop_nil _).mono ?_); rintro e w' ⟨rfl, rfl⟩) | (go_at_call 34; (with_reducible refine (len_nil _).mono ?_); rintro e w' ⟨rfl, rfl⟩) | (go_at_call 45; (with_reducible refine (list_nil _).mono ?_); rintro e w' ⟨rfl, rfl⟩) | (go_at_call 46; (with_reducible refine (size_nil _).mono ?_); rintro e w' ⟨rfl, rfl⟩) | (go_at_call 36; (with_reducible refine (step_nil _).mono ?_); rintro e w' ⟨rfl, rfl⟩) | (go_at_call 38; (with_reducible refine (over_nil _).mono ?_); rintro e w' ⟨rfl, rfl⟩) | (go_at_call 39; (with_reducible refine (mark_nil _).mono ?_); rintro e w' ⟨rfl, rfl⟩) | (go_at_call 37; (with_reducible refine (ok_nil _).mono ?_); rintro e w' ⟨rfl, rfl⟩) | (go_at_call 42; (with_reducible refine (value_nil _).mono ?_); rintro e w' ⟨rfl, rfl⟩))
        go_ret
        exact ⟨rfl, HB.out⟩
      · have HRN := Aside0.mk (fun W (p : Mp) (hm : MemAt 97 W p M0) => ringNew_err W p M0 a1 a0 9 hm hw1 (by omega))
        have hb3 : 70 - (a0 + 2) < a1 := by omega
        clear hlen htm hw0 hw1 hb2
        go_enter Try.func10, Try.ntmps10
        go_wp2_with (first | (go_at_call 15; (with_reducible refine (HNEW.out _).mono ?_); rintro e w' ⟨p, rfl, hm, hb, hk⟩; have HBn := Aside0.mk (below_step (by repeat (first | exact HB.out | apply below_alloc | apply pw_below_drewN | apply below_drew1)) hb); have HK := Aside0.mk (fun k (hh : p.has k) => Nat.le_trans (below_size HB.out) (hk k hh)); have HM := Aside0.mk hm; clear HB hm hb hk; have HB := HBn; clear HBn) | (go_at_call 30; (with_reducible refine (HRN.out _ p HM.out).mono ?_); rintro e w' ⟨rfl, rfl⟩) | (go_at_call 47; (with_reducible refine (rcells_in _ _ hs0 hs1).mono ?_); rintro e w' ⟨rfl, rfl⟩) | (go_at_call 48; (with_reducible refine (cellsN_in _ _ hs0 hs1).mono ?_); rintro e w' ⟨rfl, rfl⟩) | (go_at_call 30; (refine (ringNew_nil _ 4 0 (by decide) (by decide)).mono ?_); rintro e w' ⟨rfl, rfl⟩) | (go_at_call 31; (with_reducible refine (told_ _).mono ?_); rintro e w' ⟨rfl, hb⟩; have HBn := Aside0.mk (below_step (by repeat (first | exact HB.out | apply below_alloc | apply pw_below_drewN | apply below_drew1)) hb); clear HB hb; have HB := HBn; clear HBn) | (go_at_call 33; (with_reducible refine (push_nil _ 1).mono ?_); rintro e w' ⟨rfl, rfl⟩) | (go_at_call 35; (with_reducible refine (pop_nil _).mono ?_); rintro e w' ⟨rfl, rfl⟩) | (go_at_call 34; (with_reducible refine (len_nil _).mono ?_); rintro e w' ⟨rfl, rfl⟩) | (go_at_call 45; (with_reducible refine (list_nil _).mono ?_); rintro e w' ⟨rfl, rfl⟩) | (go_at_call 46; (with_reducible refine (size_nil _).mono ?_); rintro e w' ⟨rfl, rfl⟩) | (go_at_call 36; (with_reducible refine (step_nil _).mono ?_); rintro e w' ⟨rfl, rfl⟩) | (go_at_call 38; (with_reducible refine (over_nil _).mono ?_); rintro e w' ⟨rfl, rfl⟩) | (go_at_call 39; (with_reducible refine (mark_nil _).mono ?_); rintro e w' ⟨rfl, rfl⟩) | (go_at_call 37; (with_reducible refine (ok_nil _).mono ?_); rintro e w' ⟨rfl, rfl⟩) | (go_at_call 42; (with_reducible refine (value_nil _).mono ?_); rintro e w' ⟨rfl, rfl⟩))
        go_ret
        exact ⟨rfl, HB.out⟩
    · have HRN := Aside0.mk (fun W (p : Mp) (hm : MemAt 97 W p M0) => ringNew_err W p M0 a1 a0 9 hm hw1 (by omega))
      have hb3 : a1 < 0 := by omega
      clear hlen htm hw0 hw1 hb
      go_enter Try.func10, Try.ntmps10
      go_wp2_with (first | (go_at_call 15; (with_reducible refine (HNEW.out _).mono ?_); rintro e w' ⟨p, rfl, hm, hb, hk⟩; have HBn := Aside0.mk (below_step (by repeat (first | exact HB.out | apply below_alloc | apply pw_below_drewN | apply below_drew1)) hb); have HK := Aside0.mk (fun k (hh : p.has k) => Nat.le_trans (below_size HB.out) (hk k hh)); have HM := Aside0.mk hm; clear HB hm hb hk; have HB := HBn; clear HBn) | (go_at_call 30; (with_reducible refine (HRN.out _ p HM.out).mono ?_); rintro e w' ⟨rfl, rfl⟩) | (go_at_call 47; (with_reducible refine (rcells_in _ _ hs0 hs1).mono ?_); rintro e w' ⟨rfl, rfl⟩) | (go_at_call 48; (with_reducible refine (cellsN_in _ _ hs0 hs1).mono ?_); rintro e w' ⟨rfl, rfl⟩) | (go_at_call 30; (refine (ringNew_nil _ 4 0 (by decide) (by decide)).mono ?_); rintro e w' ⟨rfl, rfl⟩) | (go_at_call 31; (with_reducible refine (told_ _).mono ?_); rintro e w' ⟨rfl, hb⟩; have HBn := Aside0.mk (below_step (by repeat (first | exact HB.out | apply below_alloc | apply pw_below_drewN | apply below_drew1)) hb); clear HB hb; have HB := HBn; clear HBn) | (go_at_call 33; (with_reducible refine (push_nil _ 1).mono ?_); rintro e w' ⟨rfl, rfl⟩) | (go_at_call 35; (with_reducible refine (pop_nil _).mono ?_); rintro e w' ⟨rfl, rfl⟩) | (go_at_call 34; (with_reducible refine (len_nil _).mono ?_); rintro e w' ⟨rfl, rfl⟩) | (go_at_call 45; (with_reducible refine (list_nil _).mono ?_); rintro e w' ⟨rfl, rfl⟩) | (go_at_call 46; (with_reducible refine (size_nil _).mono ?_); rintro e w' ⟨rfl, rfl⟩) | (go_at_call 36; (with_reducible refine (step_nil _).mono ?_); rintro e w' ⟨rfl, rfl⟩) | (go_at_call 38; (with_reducible refine (over_nil _).mono ?_); rintro e w' ⟨rfl, rfl⟩) | (go_at_call 39; (with_reducible refine (mark_nil _).mono ?_); rintro e w' ⟨rfl, rfl⟩) | (go_at_call 37; (with_reducible refine (ok_nil _).mono ?_); rintro e w' ⟨rfl, rfl⟩) | (go_at_call 42; (with_reducible refine (value_nil _).mono ?_); rintro e w' ⟨rfl, rfl⟩))
      go_ret
      exact ⟨rfl, HB.out⟩
  · have HRN := Aside0.mk (fun W (p : Mp) (hm : MemAt 97 W p M0) => ringNew_err W p M0 a1 a0 9 hm hw1 (by omega))
    have HS := Aside0.mk hs
    have hor : a0 < 1 ∨ 64 < a0 := by omega
    clear hlen htm hw0 hw1 hs
    rcases hor with hor | hor
    all_goals (by_cases hq : a0 < 1 <;> try omega)
    all_goals
      go_enter Try.func10, Try.ntmps10
      go_wp2_with (first | (go_at_call 15; (with_reducible refine (HNEW.out _).mono ?_); rintro e w' ⟨p, rfl, hm, hb, hk⟩; have HBn := Aside0.mk (below_step (by repeat (first | exact HB.out | apply below_alloc | apply pw_below_drewN | apply below_drew1)) hb); have HK := Aside0.mk (fun k (hh : p.has k) => Nat.le_trans (below_size HB.out) (hk k hh)); have HM := Aside0.mk hm; clear HB hm hb hk; have HB := HBn; clear HBn) | (go_at_call 30; (with_reducible refine (HRN.out _ p HM.out).mono ?_); rintro e w' ⟨rfl, rfl⟩) | (go_at_call 47; (with_reducible refine (rcells_out _ _ HS.out).mono ?_); rintro e w' ⟨rfl, rfl⟩) | (go_at_call 48; (with_reducible refine (cellsN_out _ _ HS.out).mono ?_); rintro e w' ⟨rfl, rfl⟩) | (go_at_call 30; (refine (ringNew_nil _ 4 0 (by decide) (by decide)).mono ?_); rintro e w' ⟨rfl, rfl⟩) | (go_at_call 31; (with_reducible refine (told_ _).mono ?_); rintro e w' ⟨rfl, hb⟩; have HBn := Aside0.mk (below_step (by repeat (first | exact HB.out | apply below_alloc | apply pw_below_drewN | apply below_drew1)) hb); clear HB hb; have HB := HBn; clear HBn) | (go_at_call 33; (with_reducible refine (push_nil _ 1).mono ?_); rintro e w' ⟨rfl, rfl⟩) | (go_at_call 35; (with_reducible refine (pop_nil _).mono ?_); rintro e w' ⟨rfl, rfl⟩) | (go_at_call 34; (with_reducible refine (len_nil _).mono ?_); rintro e w' ⟨rfl, rfl⟩) | (go_at_call 45; (with_reducible refine (list_nil _).mono ?_); rintro e w' ⟨rfl, rfl⟩) | (go_at_call 46; (with_reducible refine (size_nil _).mono ?_); rintro e w' ⟨rfl, rfl⟩) | (go_at_call 36; (with_reducible refine (step_nil _).mono ?_); rintro e w' ⟨rfl, rfl⟩) | (go_at_call 38; (with_reducible refine (over_nil _).mono ?_); rintro e w' ⟨rfl, rfl⟩) | (go_at_call 39; (with_reducible refine (mark_nil _).mono ?_); rintro e w' ⟨rfl, rfl⟩) | (go_at_call 37; (with_reducible refine (ok_nil _).mono ?_); rintro e w' ⟨rfl, rfl⟩) | (go_at_call 42; (with_reducible refine (value_nil _).mono ?_); rintro e w' ⟨rfl, rfl⟩))
      go_ret
      exact ⟨rfl, HB.out⟩

end Go.Proofs.Ytejplbeddcpmeaa.Ring
